/- Contracts of the roots of natural numbers: package word's and the reference's. -/
import Derived.Test.YtbgicephinomlaaGreatDoorRep3
import Derived.Test.YtbgicephinomlaaGreatDoorL4
set_option linter.unusedVariables false
set_option linter.unusedSimpArgs false
set_option maxHeartbeats 1000000
set_option maxRecDepth 20000
namespace Go.Proofs.YtbgicephinomlaaGreatDoor
open Go Go.Vc Go.Dig

theorem QuoN.i64v {a b:Int} {k:Int→Prop} (c:Int) (ha:0≤a) (hb:0<b) (hm:a≤9223372036854775807) (hc:a / b=c) (hk:k c):QuoN .i64 a b k:=QuoN.i64 ha hb hm (by rw [hc];exact hk)
theorem Shl_i (h:Heap) (a:Sl) (m:Nat) (n:Int) (P:Nat) (hn:n=P) (ha:IsNat h a m) (la:ln 4294967296 m≤17179869184) (hp:P≤549755813888):
  Fn0 T F.word_Nat_Shl [a.val,.int .i64 n] h fun v h'=>∃s:Sl,v=s.val∧IsNat h' s (m*2^P):=by
 subst hn;exact Shl_ct h a m P ha la hp
theorem Pow_i (h:Heap) (a:Sl) (A:Nat) (n:Int) (P:Nat) (hn:n=P) (ha:IsNat h a A) (hb:P*ln 4294967296 A≤8589934590) (la:ln 4294967296 A≤8589934592) (hp:P≤65536):
  Fn0 T F.word_Nat_Pow [a.val,.int .i64 n] h fun v h'=>∃s:Sl,v=s.val∧IsNat h' s (A^P):=by
 subst hn;exact Pow_ct h a A P ha hb la hp
theorem Small_i (h:Heap) (n:Int) (P:Nat) (hn:n=P) (hp:P<18446744073709551616):Fn0 T F.word_Small [.int .u64 n] h fun v h'=>∃s':Sl,v=s'.val∧IsNat h' s' P:=by
 subst hn;exact Small_ct h P hp
theorem cmpI_eq0 {m n:Nat}:cmpI m n=0↔m=n:=by unfold cmpI;split <;> (try split) <;> omega
theorem cmpI_neg {m n:Nat} (h:cmpI m n<0):m<n:=by unfold cmpI at h;split at h <;> (try split at h) <;> omega

theorem Root_ct (h:Heap) (a:Sl) (A n:Nat) (ha:IsNat h a A) (la:ln 4294967296 A≤4096) (hn1:2≤n) (hn2:n≤8):
  Fn0 T F.word_Nat_Root [a.val,.int .i64 n] h fun v h'=>∃s:Sl,v=.tuple #[s.val,.bool (dec (rt A n^n=A))]∧IsNat h' s (rt A n):=by
 have hal:=ha.len
 have hz:=ln_eq_zero tlB (n:=A)
 by_cases h00:A=0
 ·have hz0:=hz.2 h00
  clear hz
  refine f0C ok D.word_Nat_Root rfl ?_
  conv=>whnf
  repeat ((first|refine oI.z ?_|refine cI.z ?_);conv=>whnf)
  repeat' first|((first|((first|refine oI.z ?_|refine cI.z ?_))) <;> (conv=>whnf))|(refine cnd_eq (fun _=>?_) (fun _=>?_) <;> first|(exfalso;omega)|(conv=>whnf))
  subst h00
  exact RN.a ⟨⟨none,0,0⟩,by rw [dec_true (by rw [rt_zero,Nat.zero_pow (by omega)])] <;> rfl,by rw [rt_zero];exact IsNat.nil rfl⟩
 have hz0:ln 4294967296 A≠0:=fun e=>h00 (hz.1 e)
 clear hz
 have hbl:bl A≤131072:=Nat.le_trans (bl_le_ln A) (by omega)
 have hbA:=bl_le_iff.1 (Nat.le_refl (bl A))
 obtain ⟨B0,hB0⟩:∃B0,B0=bl A:=⟨_,rfl⟩
 rw [← hB0] at hbl hbA
 obtain ⟨C,hC⟩:∃C,C=(B0+n-1) / n:=⟨_,rfl⟩
 have hCi:((B0:Int)+(n:Int)-1) / (n:Int)=(C:Int):=by
  rw [hC,show (B0:Int)+(n:Int)-1=((B0+n-1:Nat):Int) by omega];rfl
 have hCn:B0≤n*C:=by
  have h1:=Nat.div_add_mod (B0+n-1) n
  have h2:=Nat.mod_lt (B0+n-1) (show n>0 by omega)
  rw [← hC] at h1
  omega
 have hCb:C≤131080:=by rw [hC];exact Nat.le_trans (Nat.div_le_self _ _) (by omega)
 have hst:rt A n≤2^(C+1):=Nat.le_trans (rt_start (by omega) hbA hCn) (Nat.pow_le_pow_right (by decide) (by omega))
 have hl0:=ln_two_pow (C+1)
 obtain ⟨X0,hX0⟩:∃X0,X0=2^(C+1):=⟨_,rfl⟩
 have hX0p:0<X0:=by rw [hX0];exact Nat.two_pow_pos _
 rw [← hX0] at hst hl0
 clear hC hCn hbA
 refine f0C ok D.word_Nat_Root rfl ?_
 conv=>whnf
 repeat ((first|refine oI.z ?_|refine cI.z ?_);conv=>whnf)
 repeat' first|((first|(show CN _ _ _ _ _ _;first|(refine CN.f rfl (Small_ct _ 1 (by omega)) (fun v h' hl hr=>?_);obtain ⟨s',rfl,hs'⟩:=hr)|(refine CN.quiet rfl (Bits_ct _ _ A (by (iterate 30 try first|assumption|refine IsNat.mono ?_ (by assumption));first|done|assumption) (by omega)) ?_;rw [← hB0])|(refine CN.f rfl (Shl_i _ _ 1 _ (C+1) (by omega) (by assumption) (by rw [ln_one _ tlB];decide) (by omega)) (fun v h' hl hr=>?_);rw [Nat.one_mul,← hX0] at hr;obtain ⟨s',rfl,hs'⟩:=hr))|(show QuoN _ _ _ _;refine QuoN.i64v (C:Int) (by omega) (by omega) (by omega) hCi ?_)|((first|refine oI.z ?_|refine cI.z ?_))|refine WN.i64 (by omega) (by omega) ?_) <;> (conv=>whnf))|(refine cnd_eq (fun _=>?_) (fun _=>?_) <;> first|(exfalso;omega)|(conv=>whnf))
 rename_i hx0
 refine LpN.of (fun r ρ h' L=>∃xs:Sl,h.le h'∧rd ρ 6=xs.val∧IsNat h' xs r∧Hq (rt A n≤r)∧0<r∧ln 4294967296 r≤131082) X0
  ⟨_,(by (iterate 30 try first|assumption|refine Heap.lt ?_ (by assumption));first|done|assumption),rfl,(by assumption),⟨hst⟩,hX0p,by omega⟩ ?_
 clear hz0 hal hx0
 conv=>whnf
 repeat intro _
 rename_i X h1 L1 hI
 obtain ⟨xs,hle,e6,hxs,hrX,hXp,hXl⟩:=hI
 conv at e6=>lhs;whnf
 subst e6
 have ha1:=ha.mono hle
 have q1:=ln_pow tlB X (n-1)
 have q2:=ln_pow tlB X n
 have r1:(n-1)*ln 4294967296 X≤7*131082:=Nat.mul_le_mul (by omega) hXl
 have r2:n*ln 4294967296 X≤8*131082:=Nat.mul_le_mul hn2 hXl
 obtain ⟨P1,hP1⟩:∃P1,P1=X^(n-1):=⟨_,rfl⟩
 obtain ⟨P2,hP2⟩:∃P2,P2=X^n:=⟨_,rfl⟩
 have hP1p:P1≠0:=by rw [hP1];exact Nat.ne_of_gt (Nat.pow_pos hXp)
 rw [← hP1] at q1
 rw [← hP2] at q2
 have q3:=ln_div A P1
 have q4:=ln_mul tlB X (n-1)
 have q5:ln 4294967296 (n-1)≤1:=(ln_le_iff tlB).2 (by omega)
 obtain ⟨Q1,hQ1⟩:∃Q1,Q1=A / P1:=⟨_,rfl⟩
 rw [← hQ1] at q3
 obtain ⟨M1,hM1⟩:∃M1,M1=X*(n-1):=⟨_,rfl⟩
 rw [← hM1] at q4
 have q6:=ln_add tlB M1 Q1
 obtain ⟨Y,hY⟩:∃Y,Y=(M1+Q1) / n:=⟨_,rfl⟩
 have hYn:Y=newt A n X:=by rw [hY,hM1,hQ1,hP1];rfl
 have hYl:Y<X→ln 4294967296 Y≤131082:=fun hh=>Nat.le_trans (ln_le_of_le (Nat.le_of_lt hh)) hXl
 have hYr:rt A n≤Y:=by rw [hYn];exact rt_newt (by omega) hXp
 have hstop:X≤Y→X=rt A n:=fun hh=>newt_stop (by omega) hXp (by rw [← hYn];exact hh) hrX.out
 have hYp:0<Y:=Nat.lt_of_lt_of_le (rt_pos (by omega) h00) hYr
 have hYb:ln 4294967296 Y≤1048576:=by rw [hY];exact Nat.le_trans (ln_div _ _) (by omega)
 replace hYr:=Hq.mk hYr
 replace hstop:=Hq.mk hstop
 clear hYn hrX ha
 conv=>whnf
 repeat ((first|refine oI.z ?_|refine cI.z ?_);conv=>whnf)
 repeat' first|((first|(show CN _ _ _ _ _ _;first|(refine CN.f rfl (Pow_i _ _ X _ (n-1) (by omega) (by assumption) (by omega) (by omega) (by omega)) (fun v h' hl hr=>?_);rw [← hP1] at hr;obtain ⟨s',rfl,hs'⟩:=hr)|(refine CN.f rfl (Pow_i _ _ X _ n rfl (by (iterate 30 try first|assumption|refine IsNat.mono ?_ (by assumption));first|done|assumption) (by omega) (by omega) (by omega)) (fun v h' hl hr=>?_);rw [← hP2] at hr;obtain ⟨s',rfl,hs'⟩:=hr)|(refine CN.f rfl (Div_ct _ _ _ A P1 (by (iterate 30 try first|assumption|refine IsNat.mono ?_ (by assumption));first|done|assumption) (by assumption) (by omega) (by omega) hP1p) (fun v h' hl hr=>?_);rw [← hQ1] at hr;obtain ⟨q',r',rfl,hq',hr'⟩:=hr)|(refine CN.f rfl (Small_i _ _ (n-1) (by omega) (by omega)) (fun v h' hl hr=>?_);obtain ⟨s',rfl,hs'⟩:=hr)|(refine CN.f rfl (Mul_ct _ _ _ X (n-1) (by (iterate 30 try first|assumption|refine IsNat.mono ?_ (by assumption));first|done|assumption) (by assumption) (by omega) (by omega)) (fun v h' hl hr=>?_);rw [← hM1] at hr;obtain ⟨s',rfl,hs'⟩:=hr)|(refine CN.f rfl (Add_ct _ _ _ M1 Q1 (by assumption) (by (iterate 30 try first|assumption|refine IsNat.mono ?_ (by assumption));first|done|assumption) (by omega) (by omega)) (fun v h' hl hr=>?_);obtain ⟨s',rfl,hs'⟩:=hr)|(refine CN.f rfl (DivSmall_ct _ _ (M1+Q1) n (by assumption) (by omega) (by omega) (by omega)) (fun v h' hl hr=>?_);rw [← hY] at hr;obtain ⟨s',rfl,hs'⟩:=hr)|(refine CN.quiet rfl (Cmp_ct _ _ _ Y X (by (iterate 30 try first|assumption|refine IsNat.mono ?_ (by assumption));first|done|assumption) (by (iterate 30 try first|assumption|refine IsNat.mono ?_ (by assumption));first|done|assumption) (by omega) (by omega)) ?_)|(refine CN.quiet rfl (Cmp_ct _ _ _ P2 A (by assumption) (by (iterate 30 try first|assumption|refine IsNat.mono ?_ (by assumption));first|done|assumption) (by omega) (by omega)) ?_))|((first|refine oI.z ?_|refine cI.z ?_))|(show WN _ _ _;first|refine WN.i64 (by omega) (by omega) ?_|refine WN.u64 (by omega) (by omega) ?_|refine WN.u32 (by omega) (by omega) ?_)) <;> (conv=>whnf))|(refine cnd_le (fun _=>?_) (fun _=>?_) <;> first|(exfalso;omega)|(conv=>whnf))
 ·have hc:X≤Y:=cmp_le (by assumption)
  have hXr:=hstop.out hc
  refine RN.a ⟨xs,?_,by rw [← hXr];exact (by (iterate 30 try first|assumption|refine IsNat.mono ?_ (by assumption));first|done|assumption)⟩
  by_cases hp:rt A n^n=A
  ·rw [dec_true hp,Vc.eq_true' (cmpI_eq0.2 (by rw [hP2,hXr];exact hp))]
  ·rw [dec_false hp,Vc.eq_false' (fun e=>hp (by rw [← hXr,← hP2];exact cmpI_eq0.1 e))]
 ·have hc:Y<X:=cmpI_neg (by assumption)
  exact ⟨rfl,Y,hc,_,(by (iterate 30 try first|assumption|refine Heap.lt ?_ (by assumption));first|done|assumption),rfl,(by assumption),hYr,hYp,hYl hc⟩

end Go.Proofs.YtbgicephinomlaaGreatDoor
/- Rational roots: number.Root, the reference's Exact and Root; what the statement on roots computes: true. -/
namespace Go.Dig
theorem rt_self (a:Nat) {n:Nat} (hn:1≤n):rt a n≤a:=Nat.le_trans (self_le_pow hn) (rt_le hn)
def exactQ (q:Rat) (n:Nat):Rat × Bool:=
 if sg q=true∧n%2=0 then (0,false) else if rt (nu q) n^n=nu q∧rt q.den n^n=q.den then (mkQ (sg q) (rt (nu q) n) (rt q.den n),true) else (0,false)
theorem rt_den {q:Rat} {n:Nat} (hn:1≤n):rt q.den n≠0:=Nat.ne_of_gt (rt_pos hn q.den_nz)
theorem root_parts {q:Rat} {n:Nat} (hn:1≤n) (h1:rt (nu q) n^n=nu q) (h2:rt q.den n^n=q.den):
  sg (mkQ (sg q) (rt (nu q) n) (rt q.den n))=sg q∧nu (mkQ (sg q) (rt (nu q) n) (rt q.den n))=rt (nu q) n∧(mkQ (sg q) (rt (nu q) n) (rt q.den n)).den=rt q.den n:=by
 have hd:=rt_den (q:=q) hn
 have hc:Nat.gcd (rt (nu q) n) (rt q.den n)=1:=by
  have hq:=cop q
  have d1:=Nat.gcd_dvd_left (rt (nu q) n) (rt q.den n)
  have d2:=Nat.gcd_dvd_right (rt (nu q) n) (rt q.den n)
  have k1:rt (nu q) n^1 ∣ rt (nu q) n^n:=Nat.pow_dvd_pow _ hn
  have k2:rt q.den n^1 ∣ rt q.den n^n:=Nat.pow_dvd_pow _ hn
  rw [h1,Nat.pow_one] at k1
  rw [h2,Nat.pow_one] at k2
  have e1:=Nat.dvd_trans d1 k1
  have e2:=Nat.dvd_trans d2 k2
  have:=Nat.dvd_gcd e1 e2
  rw [hq] at this
  exact Nat.dvd_one.1 this
 refine ⟨?_,by rw [nu_mkQ _ hd,hc,Nat.div_one],by rw [den_mkQ _ hd,hc,Nat.div_one]⟩
 rw [sg_mkQ _ hd]
 cases hs:sg q with
 | false=>rfl
 | true=>
  have:nu q≠0:=fun e=>by rw [nu_eq_zero.1 e,sg_zero] at hs;cases hs
  have h3:rt (nu q) n≠0:=Nat.ne_of_gt (rt_pos hn this)
  simp [h3]
end Go.Dig
namespace Go.Proofs.YtbgicephinomlaaGreatDoor
open Go Go.Vc Go.Dig
def specRoot (n1:Bool) (l1 m1:List Nat) (n:Int):Rat × Bool × Int:=
 if okR n1 l1 m1 then (if n<2∨8<n then (0,false,2) else ((exactQ (ratOf n1 l1 m1) n.toNat).1,(exactQ (ratOf n1 l1 m1) n.toNat).2,0)) else (0,false,1)
def ResB (h:Heap) (v:Value) (x:Rat × Bool × Int):Prop:=∃a b:Sl,v=.tuple #[.agg #[.bool (sg x.1),a.val,b.val],.bool x.2.1,.int .i64 x.2.2]∧IsRat h a b x.1
theorem ResB.err (h:Heap) (e:Int):ResB h (.tuple #[.agg #[.bool false,.slice none 0 0,.slice none 0 0],.bool false,.int .i64 e]) (0,false,e):=
 ⟨⟨none,0,0⟩,⟨none,0,0⟩,by rw [show sg (0,false,e).1=false from sg_zero] <;> rfl,IsRat.zero _⟩
theorem Root_i (h:Heap) (a:Sl) (A:Nat) (n:Int) (N:Nat) (hn:n=N) (ha:IsNat h a A) (la:ln 4294967296 A≤4096) (hn1:2≤N) (hn2:N≤8):
  Fn0 T F.word_Nat_Root [a.val,.int .i64 n] h fun v h'=>∃s:Sl,v=.tuple #[s.val,.bool (dec (rt A N^N=A))]∧IsNat h' s (rt A N):=by
 subst hn;exact Root_ct h a A N ha la hn1 hn2
theorem Give_s (h:Heap) (s:Bool) (a b:Sl) (q:Rat) (hs:sg q=s) (hq:IsFr h a b q) (hz:Sz 1073741824 q):
  Fn0 T F.word_Frac_Give [.agg #[.bool s,a.val,b.val]] h fun v h'=>Res h' v (outR q):=by
 subst hs;exact Give_ct h a b q hq hz
theorem NRoot_ct (h:Heap) (tb:Tb h) (n1:Bool) (a1 b1:Sl) (l1 m1:List Nat) (hv1:IsVal h a1 b1 l1 m1) (n:Int) (lo:-9223372036854775808≤n) (hi:n≤9223372036854775807):
  Fn0 T F.number_Root [.agg #[.bool n1,a1.val,b1.val],.int .i64 n] h fun v h'=>ResB h' v (specRoot n1 l1 m1 n):=by
 have f2:¬okR n1 l1 m1→specRoot n1 l1 m1 n=(0,false,1):=fun x=>if_neg x
 have f3:okR n1 l1 m1→(n<2∨8<n)→specRoot n1 l1 m1 n=(0,false,2):=fun x y=>by unfold specRoot;rw [if_pos x,if_pos y]
 have f4:okR n1 l1 m1→¬(n<2∨8<n)→specRoot n1 l1 m1 n=((exactQ (ratOf n1 l1 m1) n.toNat).1,(exactQ (ratOf n1 l1 m1) n.toNat).2,0):=fun x y=>by unfold specRoot;rw [if_pos x,if_neg y]
 refine f0C ok D.number_Root rfl ?_
 conv=>whnf
 repeat ((first|refine oI.z ?_|refine cI.z ?_);conv=>whnf)
 repeat' first|((first|(show CN _ _ _ _ _ _;(refine CN.f rfl (Read_ct _ (by assumption) _ _ _ l1 m1 (by assumption)) (fun v h' hle1 hr=>?_);obtain ⟨s1,c1,d1,rfl,hok1⟩:=hr))|((first|refine oI.z ?_|refine cI.z ?_))|intro (_:Nat)|refine LdN.o 1 rfl rfl ?_|refine Ld.o 0 rfl rfl ?_|(show Sto _ _ _ _;first|refine Sto.l 0 rfl rfl rfl ?_|refine Sto.l 1 rfl rfl rfl ?_)) <;> (conv=>whnf))|(show cnd _ _ _;first|(refine cnd_lt (fun _=>?_) (fun _=>?_) <;> first|(exfalso;omega)|(conv=>whnf))|(refine cnd_not ?_)|(refine cnd_dec (fun _=>?_) (fun _=>?_) <;> first|(exfalso;omega)|(conv=>whnf))|(refine cnd_bool (fun hb=>?_) (fun hb=>?_) <;> (first|cases hb|subst hb) <;> (conv=>whnf)))
 all_goals first
  | (rw [f2 (by assumption)];exact RN.a (ResB.err _ _))
  | (rw [f3 (by assumption) (by omega)];exact RN.a (ResB.err _ _))
  | skip
 all_goals
  obtain ⟨hs,g1⟩:=hok1 (by assumption)
  have k1:okR n1 l1 m1:=by assumption
  have z1:=okR.sz k1
  have hfq:=k1.2.2
  obtain ⟨N,hN⟩:∃N:Nat,n=N:=⟨n.toNat,by omega⟩
  rw [f4 k1 (by omega),show n.toNat=N by omega]
  clear f2 f3 f4 hok1
  obtain ⟨q,hq⟩:∃q,q=ratOf n1 l1 m1:=⟨_,rfl⟩
  rw [← hq] at hs g1 z1 hfq
  rw [← hq]
  have hn2:2≤N:=by omega
  have hn8:N≤8:=by omega
  have i1:=g1.num
  have i2:=g1.den
  have t1:=z1.num
  have t2:=z1.den
  have w1:=ln_le_of_le (rt_self (nu q) (n:=N) (by omega))
  have w2:=ln_le_of_le (rt_self q.den (n:=N) (by omega))
  have E1:sg q=true→N%2=0→exactQ q N=(0,false):=fun a b=>if_pos ⟨a,b⟩
  have E2:¬(sg q=true∧N%2=0)→rt (nu q) N^N=nu q→rt q.den N^N=q.den→exactQ q N=(mkQ (sg q) (rt (nu q) N) (rt q.den N),true):=fun a b c=>by unfold exactQ;rw [if_neg a,if_pos ⟨b,c⟩]
  have E3:¬(sg q=true∧N%2=0)→¬(rt (nu q) N^N=nu q∧rt q.den N^N=q.den)→exactQ q N=(0,false):=fun a b=>by unfold exactQ;rw [if_neg a,if_neg b]
  have R:=root_parts (q:=q) (n:=N) (by omega)
  obtain ⟨r,hr0⟩:∃r,r=mkQ (sg q) (rt (nu q) N) (rt q.den N):=⟨_,rfl⟩
  rw [← hr0] at E2 R
  rw [← hs] at E1 E2 E3 R
  obtain ⟨X1,hX1⟩:∃X,X=rt (nu q) N:=⟨_,rfl⟩
  obtain ⟨X2,hX2⟩:∃X,X=rt q.den N:=⟨_,rfl⟩
  rw [← hX1,← hX2] at E2 E3 R
  rw [← hX1] at w1
  rw [← hX2] at w2
  have hfr:X1^N=nu q→X2^N=q.den→fits r:=fun a b=>⟨by rw [(R a b).2.1];omega,by rw [(R a b).2.2];omega⟩
  have hzr:X1^N=nu q→X2^N=q.den→Sz 1073741824 r:=fun a b=>⟨Nat.le_trans (hfr a b).1 (by decide),Nat.le_trans (hfr a b).2 (by decide)⟩
  have hout:X1^N=nu q→X2^N=q.den→outR r=(r,0):=fun a b=>if_pos (hfr a b)
  clear hr0 hq hs
 all_goals (repeat' first|((first|(show RemN _ _ _;refine RemN.nn (by omega) (by omega) ?_)|(show CN _ _ _ _ _ _;first|(refine CN.f rfl (Root_i _ _ (nu q) n N hN (by (iterate 30 try first|assumption|refine IsNat.mono ?_ (by assumption));first|done|assumption) (by omega) hn2 hn8) (fun v h' hl hr=>?_);rw [← hX1] at hr;obtain ⟨s',rfl,hs'⟩:=hr)|(refine CN.f rfl (Root_i _ _ q.den n N hN (by (iterate 30 try first|assumption|refine IsNat.mono ?_ (by assumption));first|done|assumption) (by omega) hn2 hn8) (fun v h' hl hr=>?_);rw [← hX2] at hr;obtain ⟨s',rfl,hs'⟩:=hr)|(refine CN.f rfl (Give_s _ _ _ _ r (R (by assumption) (by assumption)).1 ⟨by rw [(R (by assumption) (by assumption)).2.1];exact (by (iterate 30 try first|assumption|refine IsNat.mono ?_ (by assumption));first|done|assumption),by rw [(R (by assumption) (by assumption)).2.2];exact (by assumption)⟩ (hzr (by assumption) (by assumption))) (fun v h' hl hr=>?_);rw [hout (by assumption) (by assumption)] at hr;obtain ⟨e1,e2,rfl,hq'⟩:=Res.two hr))|((first|refine oI.z ?_|refine cI.z ?_))|intro (_:Nat)|(show LdN _ _ _ _ _;first|refine LdN.o 0 rfl rfl ?_|refine LdN.o 1 rfl rfl ?_|refine LdN.o 2 rfl rfl ?_)|refine Ld.o 0 rfl rfl ?_|(show Sto _ _ _ _;first|refine Sto.l 0 rfl rfl rfl ?_|refine Sto.l 1 rfl rfl rfl ?_|refine Sto.l 2 rfl rfl rfl ?_)) <;> (conv=>whnf))|(show cnd _ _ _;first|(refine cnd_eq (fun _=>?_) (fun _=>?_) <;> first|(exfalso;omega)|(conv=>whnf))|(refine cnd_not ?_)|(refine cnd_dec (fun _=>?_) (fun _=>?_) <;> first|(exfalso;omega)|(conv=>whnf))))
 all_goals first
  | (rw [E1 rfl (by omega)];exact RN.a (ResB.err _ _))
  | (rw [E2 (fun hh=>by first|(have:=hh.2;omega)|(have:=hh.1;contradiction)) (by assumption) (by assumption)];exact RN.a ⟨_,_,by rw [Vc.eq_true' rfl] <;> rfl,(by assumption)⟩)
  | (rw [E3 (fun hh=>by first|(have:=hh.2;omega)|(have:=hh.1;contradiction)) (fun hh=>by first|exact absurd hh.1 (by assumption)|exact absurd hh.2 (by assumption))];exact RN.a (ResB.err _ _))
end Go.Proofs.YtbgicephinomlaaGreatDoor