/- Rational numbers by sign, numerator and denominator; lowest terms; the grid. Plain mathematics, no program. -/
import Derived.Test.YtdccpmlhflpeaaaGreatDoorW6
set_option linter.all false
namespace Go.Dig
def mkQ(neg:Bool)(m n:Nat):Rat:=mkRat (if neg then -(m:Int) else (m:Int)) n
def sg(q:Rat):Bool:=decide (q.num<0)
def nu(q:Rat):Nat:=q.num.natAbs
theorem pJ(q:Rat):q.num=if sg q then -(nu q:Int) else (nu q:Int):=by
 unfold sg nu;by_cases h:q.num<0
 .rw[if_pos (by simpa using h)];omega
 .rw[if_neg (by simpa using h)];omega
theorem tW(q:Rat):mkQ (sg q) (nu q) q.den=q:=by
 unfold mkQ;rw[<-pJ,Rat.mkRat_self]
theorem aFu(neg:Bool)(m:Nat):(if neg then -(m:Int) else (m:Int)).natAbs=m:=by cases neg<;>simp
theorem aKs(neg:Bool){m n:Nat}(hn:n≠0):(mkQ neg m n).num=if neg then -((m / Nat.gcd m n:Nat):Int) else ((m / Nat.gcd m n:Nat):Int):=by
 unfold mkQ;rw[Rat.num_mkRat,if_neg hn,aFu,Nat.gcd_comm];cases neg
 .simp
 .simp only[if_true];rw[Int.neg_ediv_of_dvd (Int.natCast_dvd_natCast.2 (Nat.gcd_dvd_left m n))];simp
theorem aDq(neg:Bool){m n:Nat}(hn:n≠0):nu (mkQ neg m n)=m / Nat.gcd m n:=by
 unfold nu;rw[aKs _ hn];cases neg<;>simp only[if_true,if_false,bF4,Int.natAbs_neg,Int.natAbs_natCast]
theorem xO(neg:Bool){m n:Nat}(hn:n≠0):(mkQ neg m n).den=n / Nat.gcd m n:=by
 unfold mkQ;rw[Rat.den_mkRat,if_neg hn,aFu,Nat.gcd_comm]
theorem aUv{m n:Nat}(hn:n≠0):0<Nat.gcd m n:=bHk _ Aa
theorem aIi(neg:Bool){m n:Nat}(hn:n≠0):sg (mkQ neg m n)=(neg && decide (m≠0)):=by
 unfold sg;rw[aKs _ hn];have hm:m≠0->0<m / Nat.gcd m n:=fun h=>Nat.div_pos (Nat.le_of_dvd Aa (Nat.gcd_dvd_left m n)) (aUv hn)
 cases neg
 .simp only[Bool.false_and,if_false,bF4,decide_eq_false_iff_not];exact Int.not_lt.2 (Int.natCast_nonneg _)
 .by_cases h:m=0
  .subst h;simp
  .have:=hm h;simp[h];omega
theorem yW(neg:Bool)(n:Nat):mkQ neg 0 n=0:=by unfold mkQ;cases neg<;>simp
theorem xP:nu 0=0:=rfl
theorem tX:sg 0=false:=rfl
theorem aDr(q:Rat):0<q.den:=bE8 q.den_nz
theorem cop(q:Rat):Nat.gcd (nu q) q.den=1:=q.reduced
theorem gU{q:Rat}:nu q=0↔q=0:=by unfold nu;rw[Int.natAbs_eq_zero,Rat.num_eq_zero]
theorem aXy(q r:Rat):q+r=mkRat (q.num*r.den+r.num*q.den) (q.den*r.den):=Rat.add_def' q r
theorem yX{q r:Rat}(h:sg q=sg r):q+r=mkQ (sg q) (nu q*r.den+nu r*q.den) (q.den*r.den):=by
 rw[aXy,pJ q,pJ r,h];unfold mkQ;congr 1;cases sg r<;>simp[Int.neg_mul,Int.neg_add]
theorem aDs{q r:Rat}(h:sg q≠sg r)(hl:nu r*q.den<=nu q*r.den):q+r=mkQ (sg q) (nu q*r.den-nu r*q.den) (q.den*r.den):=by
 rw[aXy,pJ q,pJ r];unfold mkQ;congr 1;have e:((nu q*r.den-nu r*q.den:Nat):Int)=(nu q:Int)*r.den-(nu r:Int)*q.den:=by rw[Int.ofNat_sub hl];simp
 cases hq:sg q<;>cases hr:sg r<;>simp[hq,hr] at h<;>simp only[if_true,if_false,bF4,e,Int.neg_mul]<;>omega
theorem aIj{q r:Rat}(h:sg q≠sg r)(hl:nu q*r.den<=nu r*q.den):q+r=mkQ (sg r) (nu r*q.den-nu q*r.den) (q.den*r.den):=by
 rw[bHl,bDj q.den];exact aDs (Ne.symm h) hl
theorem aKt(q r:Rat):q*r=mkQ (sg q != sg r) (nu q*nu r) (q.den*r.den):=by
 rw[Rat.mul_def',pJ q,pJ r];unfold mkQ;congr 1;cases sg q<;>cases sg r<;>simp[Int.neg_mul,Int.mul_neg]
theorem vV(q:Rat):nu (-q)=nu q:=by unfold nu;simp
theorem aPz(q:Rat):sg (-q)=(!sg q && decide (nu q≠0)):=by
 unfold sg nu;rw[Rat.neg_num];rcases bGw q.num 0 with h|h|h
 .simp[h,show ¬(0<q.num) by omega]
 .simp[h]
 .simp only[Int.neg_neg_iff_pos,h,decide_true,show ¬(q.num<0) by omega,decide_false,Bool.not_false,Bool.true_and];symm;exact decide_eq_true Aa
theorem vW(q:Rat)(h:nu q≠0):nu q⁻¹=q.den:=by
 have h':q.num≠0:=by unfold nu at h;omega
 unfold nu;rw[Rat.num_inv,Int.natAbs_mul];rcases Int.lt_or_gt_of_ne h' with h1|h1<;>simp[bFg,bFt,h1]
theorem den_inv(q:Rat)(h:nu q≠0):q⁻¹.den=nu q:=by
 unfold nu at h ⊢;rw[Rat.den_inv,if_neg Aa]
theorem aP0(q:Rat):sg q⁻¹=sg q:=by
 unfold sg;rw[Rat.num_inv];have hd:=aDr q;rcases bGw q.num 0 with h1|h1|h1
 .simp[bFg,h1,hd]
 .simp[h1]
 .simp[bFt,h1,Int.not_lt.2 (Int.le_of_lt h1)]
theorem bBe(q r:Rat)(h:nu r≠0):q / r=mkQ (sg q != sg r) (nu q*r.den) (q.den*nu r):=by
 rw[bHu,aKt,aP0,vW r h,den_inv r h]
theorem aYl(q r:Rat):q / r=mkQ (sg q != sg r) (nu q*r.den) (q.den*nu r):=by
 by_cases h:nu r=0
 .have h0:r=0:=gU.1 h;subst h0;rw[h,bFc,bHu,Rat.inv_zero,bFn];unfold mkQ;simp
 .exact bBe q r h
theorem aP1(q:Rat)(n:Nat):nu (q^n)=nu q^n:=by unfold nu;rw[Rat.num_pow,Int.natAbs_pow]
theorem aYm(q:Rat)(n:Nat):sg (q^n)=(sg q && decide (n%2=1)):=by
 have key:∀n:Nat,((q.num^(2*n)≥0)/\(q.num<0->q.num^(2*n+1)<0)/\(0<=q.num->0<=q.num^(2*n+1))/\(q.num<0->0<q.num^(2*n))):=by
  intro n;have e:q.num^(2*n)=(q.num*q.num)^n:=by rw[Int.pow_mul,Int.pow_succ,Int.pow_succ,Int.pow_zero,Int.one_mul]
  have h0:0<=q.num*q.num:=by
   rcases Int.le_total 0 q.num with h|h
   .exact Int.mul_nonneg h h
   .exact Int.mul_nonneg_of_nonpos_of_nonpos h h
  have h1:0<=q.num^(2*n):=by rw[e];exact Int.pow_nonneg h0
  have h2:q.num<0->0<q.num^(2*n):=fun h=>by rw[e];exact Int.pow_pos (Int.mul_pos_of_neg_of_neg h h)
  refine⟨h1,fun h=>?_,fun h=>Int.pow_nonneg h,h2⟩
  rw[Int.pow_succ];exact Int.mul_neg_of_pos_of_neg (h2 h) h
 unfold sg;rw[Rat.num_pow];obtain⟨k1,k2,k3,k4⟩:=key (n / 2);rcases Nat.mod_two_eq_zero_or_one n with h|h
 .rw[show n=2*(n / 2) by omega]
  rw[Bool.eq_iff_iff];simp;omega
 .rw[show n=2*(n / 2)+1 by omega]
  rw[Bool.eq_iff_iff];simp;omega
theorem tY{m n k:Nat}(hm:m≠0)(hn:n≠0)(hk:k<=tw m)(hk':k<=tw n):
  m=2^k*(m / 2^k)/\n=2^k*(n / 2^k)/\m / 2^k≠0/\n / 2^k≠0/\m / Nat.gcd m n=m / 2^k / Nat.gcd (m / 2^k) (n / 2^k)/\n / Nat.gcd m n=n / 2^k / Nat.gcd (m / 2^k) (n / 2^k):=by
 have e1:m=2^k*(m / 2^k):=(Nat.mul_div_cancel' ((aKm hm).1 hk)).symm;have e2:n=2^k*(n / 2^k):=(Nat.mul_div_cancel' ((aKm hn).1 hk')).symm;refine⟨e1,e2,fun h=>by rw[h] at e1;simp at e1;exact hm e1,fun h=>by rw[h] at e2;simp at e2;exact hn e2,?_,?_⟩
 .conv=>lhs;rw[e1,e2,Nat.gcd_mul_left,Nat.mul_div_mul_left _ _ (bEr k)]
 .conv=>lhs;rw[e1,e2,Nat.gcd_mul_left,Nat.mul_div_mul_left _ _ (bEr k)]
theorem aFv{n:Nat}(hn:n≠0)(h:(tw n:Int)=bl n-1):n=2^tw n:=by
 obtain⟨u,hu⟩:=nE hn;have hlt:=aKl n;have e:bl n=tw n+1:=Aa;rw[e,bEk] at hlt;have hu0:u=0:=by
  rcases bE7 u with h0|h0
  .exact h0
  .have:2^tw n*3<=2^tw n*(2*u+1):=bD2 _ Aa;have:=bEr (tw n);omega
 conv=>lhs;rw[hu,hu0]
 simp
theorem aUw{m n k:Nat}(hm:m≠0)(hn:n≠0)(hk:k=min (tw m) (tw n))(h:(tw (n / 2^k):Int)=bl (n / 2^k)-1):Nat.gcd (m / 2^k) (n / 2^k)=1:=by
 obtain⟨e1,e2,h1,h2,-,-⟩:=tY (k:=k) hm hn Aa Aa;have hp:=aFv h2 h;by_cases ht:tw (n / 2^k)=0
 .rw[ht] at hp;rw[hp];simp
 .have hmk:tw m=k:=by
   rcases bEp k (tw n) with hlt|hge
   .omega
   .exfalso
    have:2^(k+tw (n / 2^k)) ∣ n:=by
     rw[bEs,<-hp,<-e2];exact Nat.dvd_refl _
    have:=(aKm hn).2 this;omega
  obtain⟨r,hr⟩:=nE hm;rw[hmk] at hr;have hodd:m / 2^k=2*r+1:=by
   conv=>lhs;rw[hr]
   exact Nat.mul_div_cancel_left _ (bEr k)
  rw[hodd,hp];refine Nat.Coprime.pow_right _ ?_;show Nat.gcd (2*r+1) 2=1;rw[Nat.gcd_comm,Nat.gcd_rec];simp
def bBf(q:Rat)(p:Nat)(up:Bool):Rat:=mkRat (if up then (q*2^p).ceil else (q*2^p).floor) (2^p)
theorem aFw(n:Nat):bl n<=32*ln 4294967296 n:=by
 rw[gL,bFz];exact cX (b:=4294967296) Ad n
theorem yY(n:Nat):tw n<=32*ln 4294967296 n:=by
 by_cases h:n=0
 .subst h;simp[tw]
 .obtain⟨m,hm⟩:=nE h;refine bDv ?_ (aFw n);rcases bEp (bl n) (tw n) with h'|h'
  .have:=aKl n;have h2:=bD8 (n:=2) Aa (bGi h');have h3:2^tw n*1<=2^tw n*(2*m+1):=bD2 _ Aa;omega
  .exact h'
theorem dA{m n:Nat}(h:m<=n):ln 4294967296 m<=ln 4294967296 n:=dH Ad h
theorem aIk(m n:Nat):ln 4294967296 (m / n)<=ln 4294967296 m:=dA (bGv _ _)
theorem aYn(m n:Nat)(h:n≠0):ln 4294967296 (Nat.gcd m n)<=ln 4294967296 n:=dA (Nat.gcd_le_right _ Aa)
theorem qS(neg:Bool){m n:Nat}(hn:n≠0):nu (mkQ neg m n)<=m/\(mkQ neg m n).den<=n:=by
 rw[aDq neg hn,xO neg hn];exact⟨bGv _ _,bGv _ _⟩
def dS(q:Rat):Int:=if nu q=0 then 0 else if sg q then -1 else 1
theorem yZ(q:Rat):dS q=q.num.sign:=by
 unfold dS nu sg;rcases bGw q.num 0 with h|h|h
 .rw[if_neg Aa,if_pos (by simpa using h),bFg h]
 .rw[if_pos Aa,h];rfl
 .rw[if_neg Aa,if_neg (by rw[decide_eq_true_iff];omega),bFt h]
def aBc(q r:Rat):Int:=(q.num*r.den-r.num*q.den).sign
theorem tZ{a:Int}{d:Nat}(h:0<d):(a*d).sign=a.sign:=by rw[Int.sign_mul,Int.sign_natCast_of_ne_zero Aa,Int.mul_one]
theorem aUx{q r:Rat}:aBc q r=0↔q=r:=by
 rw[Rat.eq_iff_mul_eq_mul,aBc,Int.sign_eq_zero_iff_zero];omega
theorem aIl{q r:Rat}(h:dS q≠dS r):aBc q r=if dS q<dS r then -1 else 1:=by
 rw[yZ,yZ] at *;have h1:(q.num*r.den).sign=q.num.sign:=tZ (aDr r);have h2:(r.num*q.den).sign=r.num.sign:=tZ (aDr q);unfold aBc
 generalize q.num*r.den=x at *
 generalize r.num*q.den=y at *
 rw[<-h1,<-h2] at h ⊢;rcases bGw x 0 with a|a|a<;>rcases bGw y 0 with b|b|b <;>
  simp only[bFg,bFt,Int.sign_zero,a,b,ne_eq,not_true_eq_false] at h ⊢
 all_goals first|(rw[if_pos Ad];exact bFg Aa)|(rw[if_neg Ad];exact bFt Aa)
theorem aM0(x y:Nat):((x:Int)-y).sign=(if x<y then -1 else if x=y then 0 else 1):=by
 rcases Nat.lt_trichotomy x y with a|a|a
 .rw[if_pos a,bFg Aa]
 .rw[if_neg Aa,if_pos a,a];simp
 .rw[if_neg Aa,if_neg Aa,bFt Aa]
theorem aM1{q r:Rat}(h:dS q=dS r):aBc q r=if sg q then -(iT (nu q*r.den) (nu r*q.den)) else iT (nu q*r.den) (nu r*q.den):=by
 unfold iT;rw[<-aM0];have hs:nu q≠0->sg q=sg r/\nu r≠0:=fun hq=>by
  unfold dS at h;rw[if_neg hq] at h;by_cases hr:nu r=0
  .rw[if_pos hr] at h;split at h<;>simp at h
  .rw[if_neg hr] at h;refine⟨?_,hr⟩
   revert h;cases sg q<;>cases sg r<;>simp
 unfold aBc;rw[pJ q,pJ r];by_cases hq:nu q=0
 .have hr:nu r=0:=by
   unfold dS at h;rw[if_pos hq] at h;by_cases hr:nu r=0
   .exact hr
   .rw[if_neg hr] at h;split at h<;>simp at h
  rw[hq,hr];simp
 .rw[<-(hs hq).1];cases sg q
  .simp
  .simp only[if_true];rw[<-Int.sign_neg];congr 1;simp only[Int.neg_mul,Int.natCast_mul];omega
theorem zA(n:Int):nu (n:Rat)=n.natAbs:=by unfold nu;rw[Rat.num_intCast]
theorem aP2(n:Int):sg (n:Rat)=decide (n<0):=by unfold sg;rw[Rat.num_intCast]
theorem uA(n:Int):(n:Rat).den=1:=Rat.den_intCast n
theorem aP3(q r:Rat):nu (q+r)<=nu q*r.den+nu r*q.den/\(q+r).den<=q.den*r.den:=by
 have hd:q.den*r.den≠0:=bHn q.den_nz r.den_nz;by_cases h:sg q=sg r
 .rw[yX h];exact qS _ hd
 .rcases Nat.le_total (nu r*q.den) (nu q*r.den) with hl|hl
  .rw[aDs h hl];have:=qS (sg q) (m:=nu q*r.den-nu r*q.den) hd;exact⟨Aa,this.2⟩
  .rw[aIj h hl];have:=qS (sg r) (m:=nu r*q.den-nu q*r.den) hd;exact⟨Aa,this.2⟩
theorem aP4(q r:Rat):nu (q*r)<=nu q*nu r/\(q*r).den<=q.den*r.den:=by
 rw[aKt];exact qS _ (bHn q.den_nz r.den_nz)
attribute [irreducible] sg nu mkQ bBf dS aBc
end Go.Dig
/- Rational numbers: scaling by powers of 2, the grid in other words. -/
namespace Go.Dig
def kR(q:Rat)(n:Int):Rat:=if n<0 then q⁻¹^(-n).toNat else q^n.toNat
end Go.Dig
/- Rational numbers: order, comparison, the steps of the grid. -/
namespace Go.Dig
/-! ### steps of the grid -/
end Go.Dig
/- Roots of natural numbers: the greatest number whose power is at most another; Newton's step. Plain mathematics. -/
namespace Go.Dig
def aP5(a n:Nat):Nat->Nat
 | 0=>0
 | x+1=>if (x+1)^n<=a then x+1 else aP5 a n x
def rt(a n:Nat):Nat:=aP5 a n a
end Go.Dig
/- Own memory that is lent to a call; what a call has made and hands out; more rules. -/
namespace Go.Vc
open Go Go.Dig

theorem Fn.freeze{T:Tab}{f:FuncId}{args:List Value}{h:aA}{L:Own}{R R':Value->aA->Own->Prop}(hf:Vc.Fn T f args h L R)(hr:∀v h' L',h.le h'->R v h' L'->FzN (R' v) h' L'):Vc.Fn T f args h L R':=
 fun w s=>(hf w s).mono fun e w' he=>by
  cases e with
  | returned v=>
   obtain⟨h',L',i,r⟩:=he;obtain⟨h2,L2,p,i2⟩:=i.fz (hr _ _ _ i.hle r);exact⟨h2,L2,i2,p⟩
  | panicked c=>exact he
  | outgrown=>exact he
theorem CN.make{T:Tab}{f:FuncId}{args:List Value}{h:aA}{L:Own}{k:Value->aA->Own->Prop}{R:Value->aA->Own->Prop}(ok:T.fn f=true)(hf:Vc.Fn T f args h [] R)(hk:∀v h' La,h.le h'->R v h' La->k v h' (La++L)):CN T f args h L k:=
 .of ok (.done ⟨[],L,_,by simp,hf,fun v h' La hl r=>⟨La++L,.refl _,hk v h' La hl r⟩⟩)
theorem Fn.lend{T:Tab}{f:FuncId}{args:List Value}{h:aA}{b:Nat}{o:Obj}{R:Value->Prop}(hf:h.le (h.put b o)->Fn0 T f args (h.put b o) fun v _=>R v):Vc.Fn T f args h [(b,o)] fun v _ L'=>L'=[(b,o)]/\R v:=by
 intro w s;have hb:=s.sep _ (bDk.2 rfl);have hown:=s.own _ (bDk.2 rfl);have s':Sat (h.put b o) [] w:=by
  refine⟨fun x o' hx=>?_,fun x hx=>(by cases hx),fun x hx=>(by cases hx),Ao⟩
  unfold aA.put at hx
  split at hx
  .rename_i e;subst e;cases hx;exact hown
  .exact s.imm _ _ hx
 have hle:h.le (h.put b o):=fun x o' hx=>by
  unfold aA.put
  split
  .rename_i e;subst e;simp only at hb;rw[hb] at hx;cases hx
  .exact hx
 refine ((hf hle).out w s').mono fun e w' he=>?_
 cases e with
 | returned v=>
  obtain⟨h',L',i,rfl,r⟩:=he;have hbo:h' b=some o:=i.hle _ _ (by simp[aA.put]);refine⟨fun x=>if x=b then none else h' x,[(b,o)],⟨⟨fun x o' hx=>?_,fun x hx=>?_,fun x hx=>?_,Ao⟩,i.os,i.tape,i.output,i.size,fun x hl hn=>i.fr x hl Ao,fun x o' hx=>?_,fun x o' hx hl hn=>?_,fun x hx hl=>?_,fun hs=>hs,fun hs x o' hx ho=>?_⟩,rfl,r⟩
  .split at hx
   .cases hx
   .exact i.imm _ _ hx
  .obtain rfl:=bDk.1 hx;exact i.imm _ _ hbo
  .obtain rfl:=bDk.1 hx;simp
  .have hne:x≠b:=fun e=>by subst e;simp only at hb;rw[hb] at hx;cases hx
   simp only[if_neg hne];exact i.hle _ _ (by simp[aA.put,hne,hx])
  .split at hx
   .cases hx
   .rename_i hne;have:=i.hnew _ _ hx hl Ao
    simpa[aA.put,hne] using this
  .obtain rfl:=bDk.1 hx;simp
  .by_cases hxb:x=b
   .subst hxb;rw[i.imm _ _ hbo] at ho;cases ho;exact hs _ (bDk.2 rfl)
   .refine i.frz (fun y hy=>by cases hy) x o' (.inl ?_) ho
    rcases hx with hx|hx
    .exact hx
    .simp at hx;exact absurd hx hxb
 | panicked c=>exact he
 | outgrown=>exact he
theorem CN.lend{T:Tab}{f:FuncId}{args:List Value}{h:aA}{L:Own}{k:Value->aA->Own->Prop}{b:Nat}{o:Obj}{R:Value->Prop}(n:Nat)(hn:L[n]?=some (b,o))(ok:T.fn f=true)(hf:h.le (h.put b o)->Fn0 T f args (h.put b o) fun v _=>R v)
  (hk:∀v h',h.le h'->R v->k v h' L):CN T f args h L k:=by
 refine CN.own n hn ok (Fn.lend hf) fun v h' La hl ⟨e,r⟩=>⟨o,e,?_⟩
 obtain⟨hlt,hget⟩:=bC9.1 hn;rw[<-hget,bGa];exact hk v h' hl r
theorem aE.behind{e:TypeId}{size:Nat}{v:Value}{n:Nat}{xs:List Value}{La:Own}(g:aE e size v n xs La)(L:Own):aE e size v n xs (La++L):=
 ⟨g.1,match g.2 with
   | .inl x=>.inl x
   | .inr ⟨i,b,cap,zs,h1,h2,h3,h4⟩=>.inr ⟨i,b,cap,zs,h1,by
     obtain⟨hlt,hget⟩:=bC9.1 h2;rw[bDi hlt];exact h2,h3,h4⟩⟩
theorem aE.zero{e:TypeId}{kd:IntKind}{b q c:Nat}{L:Own}(i:Nat)(h:L[i]?=some (b,.cells (List.replicate c (Value.int kd 0)).toArray e (0,0)))(hq:q<=c):aE e 1 (.slice (some ⟨b,0,Option.none⟩) q c) q ((List.replicate q 0).map (vu kd)) L:=
 ⟨by simp,.inr ⟨i,b,c,List.replicate (c-q) (Value.int kd 0),rfl,by
   rw[h,List.map_replicate];show some (b,Obj.cells (List.replicate c (Value.int kd 0)).toArray e (0,0))=some (b,Obj.cells (List.replicate q (Value.int kd 0)++List.replicate (c-q) (Value.int kd 0)).toArray e (0,0));rw[List.replicate_append_replicate,show q+(c-q)=c by omega],hq,by simp;omega⟩⟩
theorem lH.drop{kd:IntKind}{h:aA}{s:Sl}{l:List Nat}{i e:Int}{k:Option Addr->Nat->Nat->Prop}(w:Ws kd h s l)(q:Nat)(hi:i=q)(he:e=s.l)(hq:q<l.length)(hk:∀s':Sl,Ws kd h s' (l.drop q)->k s'.a s'.l s'.c):lH s.a i e s.c 1 k:=by
 have hl:=w.len;have hc:=w.cap;obtain⟨b,off,c,T,fz,h1,h2,h3⟩:=w.mem (by rintro rfl;simp at hq);refine⟨q,s.l,some ⟨b,off+q,none⟩,s.l-q,s.c-q,hi,he,Aa,hc,by rw[if_neg Aa,h1];simp[bB],rfl,rfl,?_⟩
 refine hk ⟨some ⟨b,off+q,none⟩,s.l-q,s.c-q⟩ ⟨by simp;omega,by simp;omega,fun _=>⟨b,off+q,c,T,fz,rfl,h2,fun j hj=>?_⟩⟩
 simp at hj;rw[bE4,h3 (q+j) Aa];simp[bC7,bF5]
theorem WN.u32v{n:Int}{k:Int->Prop}(x:Nat)(h:n%4294967296=x)(hk:k x):WN .u32 n k:=WN.u32m (by rw[h];exact hk)
theorem WN.u64w{n:Int}{k:Int->Prop}(x:Nat)(h:n%18446744073709551616=x)(hk:k x):WN .u64 n k:=WN.u64m (by rw[h];exact hk)
theorem kK.u32p{x r:Nat}{a b:Int}{k:Int->Prop}(ha:a=(x:Nat))(hb:b=(r:Nat))(hx:x<65536)(hr:r<=15)(hk:∀p:Nat,Hq (p=x*2^r)->p<2147483648->k p):kK .u32 a b k:=by
 subst ha hb;have h1:2^r<=2^15:=bD8 Aa hr;have h2:x*2^r<=65535*32768:=bFf Aa h1;refine kK.mk' r (by show r<=32;omega) ?_;have e:((x:Int)*2^r)=((x*2^r:Nat):Int):=by push_cast;rfl
 rw[e,mJ rfl (by show _<2^32;omega)];exact hk _ ⟨rfl⟩ Aa
theorem kL.mask16{x:Int}{k:Int->Prop}(h1:-9223372036854775808<=x)(h2:x<=9223372036854775807)(hk:∀y:Nat,(y:Int)=x%65536->k y):kL .and .i64 x 65535 k:=by
 refine⟨?_⟩;have e:((Vc.bits .and .i64 x 65535:Nat):Int)=x%65536:=by
  show (((BitVec.ofInt 64 x &&& BitVec.ofInt 64 65535).toNat:Nat):Int)=x%65536
  have e2:(BitVec.ofInt 64 65535).toNat=2^16-1:=Ad;rw[BitVec.toNat_and,e2,Nat.and_two_pow_sub_one_eq_mod,BitVec.toNat_ofInt];omega
 have hlt:x%65536<65536:=Int.emod_lt_of_pos _ Ad;have hge:0<=x%65536:=Int.emod_nonneg _ Ad;rw[jA _ (by simp[IntKind.min,IntKind.signed,IntKind.bits]<;>omega) (by simp[IntKind.max,IntKind.signed,IntKind.bits]<;>omega)];exact hk _ e
theorem cG.i16{kd:IntKind}{x:Int}{k:Int->Prop}(hb:16<=kd.bits)(hk:∀y:Int,y=x / 65536->k y):cG kd x 16 k:=by
 refine⟨Ad,?_⟩;have e:min (16:Int).toNat kd.bits=16:=bE9 hb;rw[e];exact hk _ (Int.fdiv_eq_ediv_of_nonneg _ Ad)
end Go.Vc
/- Appending to a new empty slice: what comes out is let go at once. -/
namespace Go.Vc
open Go Go.Dig

theorem App.weaken{T:Tab}{e:TypeId}{size bytes:Nat}{s x:Value}{h:aA}{L:Own}{k k1:Value->aA->Own->Prop}(a:App T e size bytes s x h L k1)(hk:∀v h' L',k1 v h' L'->FzN (k v) h' L'):App T e size bytes s x h L k:=
 ⟨fun ok o ρ K Q w0 h0 L0 w ty c h1 h2 h3 h4 h5 h6 h7 inv hout hK=>a.ex ok o ρ K Q w0 h0 L0 w ty c h1 h2 h3 h4 h5 h6 h7 inv hout fun v h' L' w' i r=>by
   obtain⟨h2,L2,p,i2⟩:=i.fz (hk v h' L' r);exact hK v h2 L2 w' i2 p⟩

theorem App.fresh0{T:Tab}{e:TypeId}{bytes:Nat}{h:aA}{L:Own}{k:Value->aA->Own->Prop}{z:Value}{bs:Nat}
  (hi:T.inf e=some ([z],bytes)) (hL:L[0]?=some (bs,.cells #[] e (0,0)))
  (ad:Addr) (m c:Nat) (news:List Value) (hl:news.length=m) (hm0:0<m) (hnews:∀j,j<news.length->Has h L (ad.add j) (news.getD j undef))
  (hm:m<=70368744177664) (hby:m*bytes<=140737488355328)
  (hk:∀b cap zs,m<=cap->k (.slice (some ⟨b,0,none⟩) m cap) h ((b,.cells (news++zs).toArray e (0,0))::L)):
  App T e 1 bytes (.slice (some ⟨bs,0,none⟩) 0 0) (.slice (some ad) m c) h L k:=by
 refine⟨fun ok o ρ K Q w0 h0 L0 w ty cc hop hty hca hargs ht hsz2 hd inv hout hK=>?_⟩
 obtain⟨d,hd1,hd2⟩:=hd;obtain⟨i,zv,h1,h2,h3,h4,h5⟩:=ok.inf _ _ _ hi;have hsi:i.size=1:=by rw[h4];rfl
 have cell:∀(w:World),(∀a v,Has h L a v->w.cell? a=some v)->∀j u,news[j]?=some u->w.cell? (ad.add j)=some u:=fun w hc j u hu=>by
  obtain⟨hj,hju⟩:=bC9.1 hu;have:=hc _ _ (hnews j hj);rw[this];simp[bC7,hu]
 have hc0:=cell w fun a v hh=>inv.toSat.cell hh
 have hexec:∀r,(Builtin.append_ #[cc.argTypes.getD 0 0,cc.argTypes.getD 0 0] o.type #[.slice (some ⟨bs,0,none⟩) 0 0,.slice (some ad) m c]).run T.prog w=r->(execOp ρ.eval o).run T.prog w=r.andThen fun v w=>.ok (.value v) w:=by
  intro r hr;have he:cc.argTypes=#[cc.argTypes.getD 0 0,cc.argTypes.getD 1 0]:=by
   apply Array.ext
   .simp[hsz2]
   .intro j hj1 hj2;rw[hsz2] at hj1
    match j,hj1 with
    | 0,_=>simp[Array.getD,hsz2]
    | 1,_=>simp[Array.getD,hsz2]
  rw[<-hr,<-iC ht hd1 hd2,<-he];simp only[execOp,hop,resolve,hca,invoke,builtin,bEg,bEj,bEf,hargs]
 refine .inl ?_;have hr:=run_append_grow (P:=T.prog) w _ o.type e i zv ht h1 h2 ⟨bs,0,none⟩ 0 0 [] Ao (fun j u hu=>by simp at hu) ad m c news (by rw[hl,hsi,bFm]) hc0 Aa Aa (growslice_fits Aa (by rw[h5];simpa using hby))
 have hge:=grownCap_ge w (0+m) 0 e;refine aX (hexec _ hr) (hK _ _ _ _ (inv.drew.alloc _ rfl) ?_);have:=hk w.heap.size (grownCap w (0+m) 0 e) (Builtin.zeroCells zv.cells (grownCap w (0+m) 0 e-(0+m))).toList Aa;have e0:([]:List Value)++news=news:=rfl;simp only[bDu] at this ⊢;have e1:(#[]++news.toArray++Builtin.zeroCells zv.cells (grownCap w m 0 e-m))=(news++(Builtin.zeroCells zv.cells (grownCap w m 0 e-m)).toList).toArray:=by simp
 first|exact this|(rw[e1];exact this)

theorem App.fresh{T:Tab}{e:TypeId}{bytes:Nat}{h:aA}{L:Own}{k:Value->aA->Own->Prop}{kd:IntKind}{z:Value}{t:Sl}{l:List Nat}{bs:Nat}(hi:T.inf e=some ([z],bytes))
  (w:Ws kd h t l) (hn:l.length<=35184372088832) (hby:bytes<=4)
  (hk:∀h' (s:Sl),h.le h'->Ws kd h' s l->k s.val h' L):App T e 1 bytes (.slice (some ⟨bs,0,none⟩) 0 0) t.val h ((bs,.cells [].toArray e (0,0))::L) k:=by
 have hln:=w.len;by_cases h0:l=[]
 .subst h0;obtain⟨a,ln,c⟩:=t;cases hln
  match a with
  | none=>
   exact App.weaken (App.nil hi (aE.new (z:=z) (kd:=.u32) (m:=0) 0 rfl) (k:=fun v h' L'=>v=.slice (some ⟨bs,0,none⟩) 0 0/\h'=h/\L'=(bs,.cells [].toArray e (0,0))::L) ⟨rfl,rfl,rfl⟩) fun v h' L' ⟨e1,e2,e3⟩=>by
    subst e1 e2 e3;exact FzN.drop 0 (.done (hk _ ⟨some ⟨bs,0,none⟩,0,0⟩ (aA.lr _) (Ws.nil rfl)))
  | some a=>
   have hx:App T e 1 bytes (.slice (some ⟨bs,0,none⟩) 0 0) (.slice (some a) 0 c) h ((bs,.cells [].toArray e (0,0))::L) fun v h' L'=>v=.slice (some ⟨bs,0,none⟩) 0 0/\h'=h/\L'=(bs,.cells [].toArray e (0,0))::L:=by
    refine⟨fun ok o ρ K Q w0 h0 L0 w ty cc hop hty hca hargs ht hsz2 hd inv hout hK=>?_⟩
    obtain⟨d,hd1,hd2⟩:=hd;obtain⟨i,zv,h1,h2,h3,h4,h5⟩:=ok.inf _ _ _ hi;have hexec:∀r,(Builtin.append_ #[cc.argTypes.getD 0 0,cc.argTypes.getD 0 0] o.type #[.slice (some ⟨bs,0,none⟩) 0 0,.slice (some a) 0 c]).run T.prog w=r->(execOp ρ.eval o).run T.prog w=r.andThen fun v w=>.ok (.value v) w:=by
     intro r hr;have he:cc.argTypes=#[cc.argTypes.getD 0 0,cc.argTypes.getD 1 0]:=by
      apply Array.ext
      .simp[hsz2]
      .intro j hj1 hj2;rw[hsz2] at hj1
       match j,hj1 with
       | 0,_=>simp[Array.getD,hsz2]
       | 1,_=>simp[Array.getD,hsz2]
     rw[<-hr,<-iC ht hd1 hd2,<-he];simp only[execOp,hop,resolve,hca,invoke,builtin,bEg,bEj,bEf,hargs]
    refine .inl (aX (hexec (.ok (.slice (some ⟨bs,0,none⟩) 0 0) w) ?_) (hK _ _ _ _ inv ⟨rfl,rfl,rfl⟩))
    generalize cc.argTypes.getD 0 0=t at ht ⊢
    simp[Builtin.append_,run_underlying ht,sizeOf,typeInfo,h1,Builtin.lenOf,Builtin.firstCells,loadCells,loadCellsFrom,storeCells]
   exact App.weaken hx fun v h' L' ⟨e1,e2,e3⟩=>by
    subst e1 e2 e3;exact FzN.drop 0 (.done (hk _ ⟨some ⟨bs,0,none⟩,0,0⟩ (aA.lr _) (Ws.nil rfl)))
 .obtain⟨b',off,c',T',fz,h1,h2,h3⟩:=w.mem h0;obtain⟨a,ln,c⟩:=t;cases h1;have hpos:0<l.length:=List.length_pos_iff.2 h0;have hln':ln=l.length:=hln;subst hln';refine App.weaken (App.fresh0 hi rfl ⟨b',off,none⟩ l.length c (l.map (vu kd)) Ao hpos (fun j hj=>?_) Aa (bDv (bFf hn hby) Ad)
    (k:=fun v h' L'=>∃b cap zs,l.length<=cap/\v=.slice (some ⟨b,0,none⟩) l.length cap/\h'=h/\L'=(b,.cells (l.map (vu kd)++zs).toArray e (0,0))::(bs,.cells [].toArray e (0,0))::L) (fun b cap zs hc=>⟨b,cap,zs,hc,rfl,rfl,rfl⟩)) fun v h' L' ⟨b,cap,zs,hc,e1,e2,e3⟩=>?_
  .simp at hj;rw[bB];refine Has.imm h2 ?_;rw[h3 j hj];simp[hj,vu,bC7]
  .subst e1 e2 e3;exact FzN.keep 0 rfl fun hle=>FzN.drop 0 (.done (hk _ ⟨some ⟨b,0,none⟩,l.length,cap⟩ hle (Ws.grown rfl hc)))
end Go.Vc
/- How pairs of words read as rational numbers; more rules. -/
namespace Go.Vc
open Go Go.Dig

structure cS (h:aA) (a b:Sl) (q:Rat):Prop where
 num:aI h a (nu q)
 den:aI h b q.den
theorem cS.mono{h h':aA}{a b:Sl}{q:Rat}(w:cS h a b q)(hl:h.le h'):cS h' a b q:=⟨w.num.mono hl,w.den.mono hl⟩
structure Sz (k:Nat) (q:Rat):Prop where
 num:ln 4294967296 (nu q)<=k
 den:ln 4294967296 q.den<=k
theorem Sz.mono{k l:Nat}{q:Rat}(s:Sz k q)(h:k<=l):Sz l q:=⟨bDv s.num h,bDv s.den h⟩
theorem aI.nil{h:aA}{s:Sl}(h0:s.l=0):aI h s 0:=by unfold aI;rw[cM];exact Ws.nil h0
theorem aIm(a b:Nat):mm false (a:Int) (b:Int)=((min a b:Nat):Int):=by unfold mm;simp;split<;>omega
theorem kL.low1{x:Int}{k:Int->Prop}(n:Nat)(hx:x=n)(hn:n<9223372036854775808)(hk:k ((n%2:Nat):Int)):kL .and .i64 x 1 k:=by
 subst hx;refine⟨?_⟩;have e:Vc.bits .and .i64 (n:Int) 1=n%2:=by
  have e1:(BitVec.ofInt 64 (n:Int)).toNat=n:=oC rfl Aa;have e2:(BitVec.ofInt 64 1).toNat=1:=Ad;show (BitVec.ofInt 64 (n:Int) &&& BitVec.ofInt 64 1).toNat=n%2;rw[BitVec.toNat_and,e1,e2,Nat.and_one_is_mod]
 rw[e];have:IntKind.i64.wrap ((n%2:Nat):Int)=((n%2:Nat):Int):=jA _ (by simp[IntKind.min,IntKind.signed,IntKind.bits];omega) (by simp[IntKind.max,IntKind.signed,IntKind.bits];omega);rw[this];exact hk
end Go.Vc