/- Contracts of package number's functions, second part: operations on one number, products and quotients, rounding, comparison, powers, ints. -/
import Derived.Test.YtbgicephinomlaaGreatDoorW10
import Derived.Test.YtbgicephinomlaaGreatDoorRep3
import Derived.Test.YtbgicephinomlaaGreatDoorL3
set_option linter.unusedVariables false
set_option linter.unusedSimpArgs false
set_option maxHeartbeats 1000000
set_option maxRecDepth 20000
namespace Go.Proofs.YtbgicephinomlaaGreatDoor
open Go Go.Vc Go.Dig

def spec1 (op:Rat→Rat) (n:Bool) (l m:List Nat):Rat × Int:=
 if okR n l m then outR (op (ratOf n l m)) else (0,1)
def Op1 (f:FuncId) (op:Rat→Rat):Prop:=∀(h:Heap) (a b:Sl) (q:Rat),Tb h→IsFr h a b q→Sz 64 q→
 Fn0 T f [.agg #[.bool (sg q),a.val,b.val]] h fun v h'=>∃s t:Sl,v=.agg #[.bool (sg (op q)),s.val,t.val]∧IsFr h' s t (op q)

theorem one_ct (h:Heap) (tb:Tb h) (n1:Bool) (a1 b1:Sl) (l1 m1:List Nat) (hv1:IsVal h a1 b1 l1 m1)
  (f:FuncId) (op:Rat→Rat) (hf:T.fn f=true) (hop:Op1 f op) (hsz:∀q,Sz 64 q→Sz 1073741824 (op q)):
  Fn0 T F.number_one [.agg #[.bool n1,a1.val,b1.val],.func (.func f) #[] #[]] h fun v h'=>Res h' v (spec1 op n1 l1 m1):=by
 have f1:okR n1 l1 m1→spec1 op n1 l1 m1=outR (op (ratOf n1 l1 m1)):=fun x=>if_pos x
 have f2:¬okR n1 l1 m1→spec1 op n1 l1 m1=(0,1):=fun x=>if_neg x
 refine f0C ok D.number_one rfl ?_
 conv=>whnf
 repeat ((first|refine oI.z ?_|refine cI.z ?_);conv=>whnf)
 repeat' first|((first|(show CN _ _ _ _ _ _;(refine CN.f rfl (Read_ct _ (by assumption) _ _ _ l1 m1 (by assumption)) (fun v h' hle1 hr=>?_);obtain ⟨s1,c1,d1,rfl,hok1⟩:=hr))|((first|refine oI.z ?_|refine cI.z ?_))|intro (_:Nat)|(show LdN _ _ _ _ _;first|refine LdN.o 0 rfl rfl ?_|refine LdN.o 1 rfl rfl ?_)|(show Sto _ _ _ _;first|refine Sto.l 0 rfl rfl rfl ?_|refine Sto.l 1 rfl rfl rfl ?_)) <;> (conv=>whnf))|(show cnd _ _ _;first|(refine cnd_not ?_)|(refine cnd_dec (fun _=>?_) (fun _=>?_) <;> first|(exfalso;omega)|(conv=>whnf)))
 ·obtain ⟨rfl,g1⟩:=hok1 (by assumption)
  have z1:=okR.sz (show okR n1 l1 m1 by assumption)
  have z3:=hsz _ z1
  rw [f1 (by assumption)]
  refine CN.f hf (hop _ _ _ _ (by (iterate 30 try first|assumption|refine Tb.mono ?_ (by assumption));first|done|assumption) (by assumption) z1) (fun v h3 hle3 hr=>?_)
  obtain ⟨s,t,rfl,hq⟩:=hr
  conv=>whnf
  repeat ((first|refine oI.z ?_|refine cI.z ?_);conv=>whnf)
  repeat' first|((first|(show CN _ _ _ _ _ _;(refine CN.f rfl (Give_ct _ _ _ _ (by assumption) z3) (fun v h' hl hr=>?_);obtain ⟨e1,e2,rfl,hq'⟩:=hr))|((first|refine oI.z ?_|refine cI.z ?_))|refine LdN.o 1 rfl rfl ?_|refine Sto.l 1 rfl rfl rfl ?_) <;> (conv=>whnf))
  exact RN.a ⟨_,_,rfl,(by assumption)⟩
 ·rw [f2 (by assumption)];exact RN.a (Res.err _ _)

theorem Op1.id:Op1 F.number_Canon_1 (fun q=>q):=fun h a b q tb h1 z1=>by
 refine f0C ok D.number_Canon_1 rfl ?_
 conv=>whnf
 repeat ((first|refine oI.z ?_|refine cI.z ?_);conv=>whnf)
 repeat' first|((first|((first|refine oI.z ?_|refine cI.z ?_))|intro (_:Nat)|(show LdN _ _ _ _ _;first|refine LdN.o 0 rfl rfl ?_|refine LdN.o 1 rfl rfl ?_)|refine Sto.l 0 rfl rfl rfl ?_) <;> (conv=>whnf))
 exact RN.a ⟨_,_,rfl,(by assumption)⟩
theorem NCanon_ct (h:Heap) (tb:Tb h) (n1:Bool) (a1 b1:Sl) (l1 m1:List Nat) (hv1:IsVal h a1 b1 l1 m1):
  Fn0 T F.number_Canon [.agg #[.bool n1,a1.val,b1.val]] h fun v h'=>Res h' v (spec1 (fun q=>q) n1 l1 m1):=by
 refine f0C ok D.number_Canon rfl ?_
 conv=>whnf
 repeat ((first|refine oI.z ?_|refine cI.z ?_);conv=>whnf)
 repeat' first|((first|(show CN _ _ _ _ _ _;(refine CN.f rfl (one_ct _ (by assumption) _ _ _ _ _ (by assumption) _ _ rfl Op1.id (fun q a=>a.mono (by decide))) (fun v h' hl hr=>?_);obtain ⟨e1,e2,rfl,hq'⟩:=hr))|((first|refine oI.z ?_|refine cI.z ?_))|intro (_:Nat)|(show LdN _ _ _ _ _;first|refine LdN.o 0 rfl rfl ?_|refine LdN.o 1 rfl rfl ?_)|refine Sto.l 0 rfl rfl rfl ?_) <;> (conv=>whnf))
 exact RN.a ⟨_,_,rfl,(by assumption)⟩

def specDiv (n1:Bool) (l1 m1:List Nat) (n2:Bool) (l2 m2:List Nat):Rat × Int:=
 if okR n1 l1 m1∧okR n2 l2 m2 then (if nu (ratOf n2 l2 m2)=0 then (0,10) else outR (ratOf n1 l1 m1 / ratOf n2 l2 m2)) else (0,1)
theorem Sz.inv {k:Nat} {q:Rat} (s:Sz k q) (h:nu q≠0):Sz k q⁻¹:=⟨by rw [nu_inv q h];exact s.den,by rw [den_inv q h];exact s.num⟩
def specGrid (up:Bool) (n:Bool) (l m:List Nat) (p:Int):Rat × Int:=
 if okR n l m then (if p<0∨256<p then (0,2) else outR (gridQ (ratOf n l m) p.toNat up)) else (0,1)
def specCmp (n1:Bool) (l1 m1:List Nat) (n2:Bool) (l2 m2:List Nat):Int × Int:=
 if okR n1 l1 m1∧okR n2 l2 m2 then (cmpQ (ratOf n1 l1 m1) (ratOf n2 l2 m2),0) else (0,1)
def specPow (n1:Bool) (l1 m1:List Nat) (n:Int):Rat × Int:=
 if okR n1 l1 m1 then (if n < -32∨32<n then (0,2) else if n<0∧nu (ratOf n1 l1 m1)=0 then (0,10) else outR (powQ (ratOf n1 l1 m1) n)) else (0,1)
theorem ln_pow {b:Nat} (hb:2≤b) (a n:Nat):ln b (a^n)≤n*ln b a+1:=by
 rw [ln_le_iff hb]
 have h1:a≤b^ln b a:=Nat.le_of_lt ((ln_le_iff hb).1 (Nat.le_refl _))
 have h2:a^n≤b^(ln b a*n):=by rw [Nat.pow_mul];exact Nat.pow_le_pow_left h1 n
 rw [Nat.mul_comm n]
 exact Nat.lt_of_le_of_lt h2 (Nat.pow_lt_pow_right (by omega) (by omega))
theorem Sz.pow {q:Rat} (s:Sz 64 q) {n:Nat} (hn:n≤32):Sz 4096 (q^n):=by
 have h1:=ln_pow tlB (nu q) n
 have h2:=ln_pow tlB q.den n
 have a1:=s.num
 have a2:=s.den
 have b1:n*ln 4294967296 (nu q)≤32*64:=Nat.mul_le_mul hn a1
 have b2:n*ln 4294967296 q.den≤32*64:=Nat.mul_le_mul hn a2
 refine ⟨?_,?_⟩
 ·rw [nu_pow];omega
 ·rw [Rat.den_pow];omega
theorem FPow_i (h:Heap) (a b:Sl) (q:Rat) (n:Int) (N:Nat) (hnN:n=N) (hq:IsFr h a b q) (hs:Sz 65536 q) (hn:N≤65536):
  Fn0 T F.word_Frac_Pow [.agg #[.bool (sg q),a.val,b.val],.int .i64 n] h fun v h'=>∃s t:Sl,v=.agg #[.bool (sg (q^N)),s.val,t.val]∧IsFr h' s t (q^N):=by
 subst hnN;exact FPow_ct h a b q N hq hs hn
theorem fits_int (n:Int) (h1:-9223372036854775808≤n) (h2:n≤9223372036854775807):fits (n:Rat):=by
 have a:=(ln_le_iff (k:=2) tlB).2 (show nu (n:Rat)<4294967296^2 by rw [nu_int];omega)
 refine ⟨by omega,?_⟩
 rw [den_int,ln_one _ tlB];decide
def bitsQ (q:Rat):Int:=mm true (bl (nu q):Nat) (bl q.den:Nat)
def specBits (n1:Bool) (l1 m1:List Nat):Int × Int:=if okR n1 l1 m1 then (bitsQ (ratOf n1 l1 m1),0) else (0,1)

theorem NatPow_i (h:Heap) (a:Sl) (A:Nat) (n:Int) (P:Nat) (hn:n=P) (ha:IsRef h a A) (hb:P*ln 65536 A≤8589934590) (la:ln 65536 A≤8589934592) (hp:P≤65536):
  Fn0 T F.ref01_NatPow [a.val,.int .i64 n] h fun v h'=>∃s:Sl,v=s.val∧IsRef h' s (A^P):=by
 subst hn;exact NatPow_ct h a A P ha hb la hp

theorem RCmp_ct (h:Heap) (a b c d:Sl) (q r:Rat) (hq:IsQ h a b q) (hr:IsQ h c d r) (hs:Sr 65536 q) (hs':Sr 65536 r):
  Fn0 T F.ref01_Cmp [.agg #[.bool (sg q),a.val,b.val],.agg #[.bool (sg r),c.val,d.val]] h fun v _=>v=.int .i64 (cmpQ q r):=by
 have y1:Sr 1073741824 q:=hs.mono (by decide)
 have y2:Sr 1073741824 r:=hs'.mono (by decide)
 have y3:Sr 1099511627776 (q-r):=by rw [Rat.sub_eq_add_neg];exact (sr_add hs (Sr.neg hs')).mono (by decide)
 have e:=cmpQ_sub q r
 refine f0C ok D.ref01_Cmp rfl ?_
 conv=>whnf
 repeat ((first|refine oI.z ?_|refine cI.z ?_);conv=>whnf)
 repeat' first|((first|(show CN _ _ _ _ _ _;first|(refine CN.f rfl (Diff_ct _ _ _ _ _ _ _ (by assumption) (by assumption) y1 y2) (fun v h' hl hr=>?_);obtain ⟨e1,e2,rfl,hq'⟩:=hr)|refine CN.quiet rfl (Sgn_q _ _ _ _ (by assumption) y3) ?_)|((first|refine oI.z ?_|refine cI.z ?_))|intro (_:Nat)|(show LdN _ _ _ _ _;first|refine LdN.o 0 rfl rfl ?_|refine LdN.o 1 rfl rfl ?_)) <;> (conv=>whnf))
 exact RN.a (by rw [e])


theorem signQ_zero {q:Rat}:signQ q=0↔nu q=0:=by
 unfold signQ
 split
 ·simp_all
 ·split <;> simp_all
theorem sr_mul {k l:Nat} {q r:Rat} (a:Sr k q) (b:Sr l r):Sr (k+l) (q*r):=by
 have h:=mul_le q r
 have p1:=ln_mul tlb (nu q) (nu r)
 have p3:=ln_mul tlb q.den r.den
 have a1:=a.num
 have a2:=a.den
 have b1:=b.num
 have b2:=b.den
 exact ⟨Nat.le_trans (ln_mono tlb h.1) (by omega),Nat.le_trans (ln_mono tlb h.2) (by omega)⟩
theorem sr_inv {k:Nat} {q:Rat} (s:Sr k q) (h:nu q≠0):Sr k q⁻¹:=⟨by rw [nu_inv q h];exact s.den,by rw [den_inv q h];exact s.num⟩
theorem sr_pow {q:Rat} (s:Sr 128 q) {n:Nat} (hn:n≤32):Sr 8192 (q^n):=by
 have h1:=ln_pow tlb (nu q) n
 have h2:=ln_pow tlb q.den n
 have b1:n*ln 65536 (nu q)≤32*128:=Nat.mul_le_mul hn s.num
 have b2:n*ln 65536 q.den≤32*128:=Nat.mul_le_mul hn s.den
 have p:=ln_one 65536 tlb
 refine ⟨?_,?_⟩
 ·rw [nu_pow];omega
 ·rw [Rat.den_pow];omega

theorem Power_nn (h:Heap) (a b:Sl) (q:Rat) (P:Nat) (n:Int) (hn:n=P) (hP:P≤32) (hq:IsQ h a b q) (hs:Sr 128 q):
  Fn0 T F.ref01_Power [.agg #[.bool (sg q),a.val,b.val],.int .i64 n] h fun v h'=>∃s t:Sl,v=.agg #[.bool (sg (q^P)),s.val,t.val]∧IsQ h' s t (q^P):=by
 have i1:=hq.num
 have i2:=hq.den
 have l1:=hs.num
 have l2:=hs.den
 have d0:=q.den_nz
 have e1:=sg_pow q P
 have e2:=nu_pow q P
 have e3:=Rat.den_pow q P
 have b1:P*ln 65536 (nu q)≤8589934590:=Nat.le_trans (Nat.mul_le_mul hP l1) (by decide)
 have b2:P*ln 65536 q.den≤8589934590:=Nat.le_trans (Nat.mul_le_mul hP l2) (by decide)
 refine f0C ok D.ref01_Power rfl ?_
 conv=>whnf
 repeat ((first|refine oI.z ?_|refine cI.z ?_);conv=>whnf)
 repeat' first|((first|(show RemN _ _ _;refine RemN.nn (by omega) (by omega) ?_)|(show CN _ _ _ _ _ _;first|(refine CN.quiet rfl (den_q _ _ _ _ _ (by (iterate 30 try first|assumption|refine Ws.mono ?_ (by assumption));first|done|assumption) (by first|assumption|omega) (by omega)) ?_)|(refine CN.f rfl (NatPow_i _ _ (nu q) n P hn (by (iterate 30 try first|assumption|refine IsRef.mono ?_ (by assumption));first|done|assumption) b1 (by omega) (by omega)) (fun v h' hl hr=>?_);rw [← e2] at hr;obtain ⟨s',rfl,hs'⟩:=hr)|(refine CN.f rfl (NatPow_i _ _ q.den n P hn (by (iterate 30 try first|assumption|refine IsRef.mono ?_ (by assumption));first|done|assumption) b2 (by omega) (by omega)) (fun v h' hl hr=>?_);rw [← e3] at hr;obtain ⟨t',rfl,ht'⟩:=hr))|((first|refine oI.z ?_|refine cI.z ?_))|refine ⟨fun _=>HasLe.o (Heap.lr _),?_⟩|refine ⟨fun _=>HasLe.o (by assumption),?_⟩|refine ⟨fun hst=>(by cases (show true=false from hst)),?_⟩|intro (_:Nat)|(show LdN _ _ _ _ _;first|refine LdN.o 0 rfl rfl ?_|refine LdN.o 1 rfl rfl ?_)|refine Ld.o 1 rfl rfl ?_|refine Sto.l 0 rfl rfl rfl ?_|refine DrN.run (by decide +kernel) ?_) <;> (conv=>whnf))|(show cnd _ _ _;first|(refine cnd_lt (fun _=>?_) (fun _=>?_) <;> first|(exfalso;omega)|(conv=>whnf))|(refine cnd_bool (fun _=>?_) (fun _=>?_) <;> (conv=>whnf)))
 ·have he:eq (n%2) 1=decide (P%2=1):=by unfold eq;rw [Bool.eq_iff_iff,decide_eq_true_iff,decide_eq_true_iff];omega
  exact RN.a ⟨s',t',by rw [e1,he];simp_all,⟨(by (iterate 30 try first|assumption|refine IsRef.mono ?_ (by assumption));first|done|assumption),(by assumption)⟩⟩
 ·exact RN.a ⟨s',t',by rw [e1];simp_all,⟨(by (iterate 30 try first|assumption|refine IsRef.mono ?_ (by assumption));first|done|assumption),(by assumption)⟩⟩
theorem one_div_q (q:Rat):((1:Int):Rat) / q=q⁻¹:=by rw [Rat.div_def,show ((1:Int):Rat)=1 from rfl,Rat.one_mul]
theorem Power_ct (h:Heap) (a b:Sl) (q:Rat) (n:Int) (h1:-32≤n) (h2:n≤32) (h0:n<0→nu q≠0) (hq:IsQ h a b q) (hs:Sr 128 q):
  Fn0 T F.ref01_Power [.agg #[.bool (sg q),a.val,b.val],.int .i64 n] h fun v h'=>∃s t:Sl,v=.agg #[.bool (sg (powQ q n)),s.val,t.val]∧IsQ h' s t (powQ q n):=by
 by_cases hn:n<0
 ·obtain ⟨P,hP⟩:∃P:Nat,P=(-n).toNat:=⟨_,rfl⟩
  have e:powQ q n=q⁻¹^P:=by unfold powQ;rw [if_pos hn,hP]
  have hz:=h0 hn
  have y1:Sr 1073741824 ((1:Int):Rat):=by
   refine ⟨?_,?_⟩
   ·rw [nu_int];exact Nat.le_trans ((ln_le_iff tlb (k:=1)).2 (by decide)) (by decide)
   ·rw [den_int,ln_one _ tlb];decide
  have y2:Sr 1073741824 q:=hs.mono (by decide)
  have y3:=sr_inv hs hz
  have d:=one_div_q q
  rw [e]
  obtain ⟨i,hi⟩:∃i,i=q⁻¹:=⟨_,rfl⟩
  rw [← hi] at d y3
  rw [← hi]
  refine f0C ok D.ref01_Power rfl ?_
  conv=>whnf
  repeat ((first|refine oI.z ?_|refine cI.z ?_);conv=>whnf)
  repeat' first|((first|(show CN _ _ _ _ _ _;first|(refine CN.f rfl (Int_ct _ 1 (by decide) (by decide)) (fun v h' hl hr=>?_);obtain ⟨e1,e2,rfl,hq'⟩:=hr)|(refine CN.f rfl (Quo_ct _ _ _ _ _ ((1:Int):Rat) q (by assumption) (by (iterate 30 try first|assumption|refine IsQ.mono ?_ (by assumption));first|done|assumption) y1 y2) (fun v h' hl hr=>?_);rw [d] at hr;obtain ⟨e1,e2,rfl,hq'⟩:=hr)|(refine CN.f rfl (Power_nn _ _ _ i P _ (by omega) (by omega) (by assumption) y3) (fun v h' hl hr=>?_);obtain ⟨e1,e2,rfl,hq'⟩:=hr))|((first|refine oI.z ?_|refine cI.z ?_))|refine ⟨fun _=>HasLe.o (by assumption),?_⟩|refine ⟨fun hst=>(by cases (show true=false from hst)),?_⟩|intro (_:Nat)|refine WN.i64 (by omega) (by omega) ?_|(show LdN _ _ _ _ _;first|refine LdN.o 0 rfl rfl ?_|refine LdN.o 1 rfl rfl ?_)|refine Sto.l 0 rfl rfl rfl ?_|refine DrN.run (by decide +kernel) ?_) <;> (conv=>whnf))|(refine cnd_lt (fun _=>?_) (fun _=>?_) <;> first|(exfalso;omega)|(conv=>whnf))
  exact RN.a ⟨_,_,rfl,(by assumption)⟩
 ·have e:powQ q n=q^n.toNat:=by unfold powQ;rw [if_neg hn]
  rw [e]
  exact Power_nn h a b q n.toNat n (by omega) (by omega) hq hs
theorem sr_powQ {q:Rat} (s:Sr 128 q) {n:Int} (h1:-32≤n) (h2:n≤32) (h0:n<0→nu q≠0):Sr 4294967296 (powQ q n):=by
 unfold powQ
 split
 ·rename_i hn;exact (sr_pow (sr_inv s (h0 hn)) (by omega)).mono (by decide)
 ·exact (sr_pow s (by omega)).mono (by decide)

theorem NatOf_i (h:Heap) (n:Int) (N:Nat) (hn:n=N) (hN:N<18446744073709551616):Fn0 T F.ref01_NatOf [.int .u64 n] h fun v h'=>∃s':Sl,v=s'.val∧IsRef h' s' N:=by
 subst hn;exact NatOf_ct h N hN
theorem Int_neg (h:Heap) (n:Int) (h1:-9223372036854775808≤n) (h2:n<0):
  Fn0 T F.ref01_Int [.int .i64 n] h fun v h'=>∃s t:Sl,v=.agg #[.bool (sg (n:Rat)),s.val,t.val]∧IsQ h' s t (n:Rat):=by
 obtain ⟨m,hm⟩:∃m,m=n.natAbs:=⟨_,rfl⟩
 have e:(n:Rat)=mkQ true m 1:=by
  have:=mkQ_self (n:Rat)
  rw [sg_int,nu_int,den_int,decide_eq_true h2,← hm] at this
  exact this.symm
 have hnm:n=-(m:Int):=by omega
 have p1:ln 65536 m≤4:=(ln_le_iff tlb).2 (by omega)
 have p2:=ln_one 65536 tlb
 rw [e]
 clear e
 refine f0C ok D.ref01_Int rfl ?_
 conv=>whnf
 repeat ((first|refine oI.z ?_|refine cI.z ?_);conv=>whnf)
 repeat' first|((first|(show WN _ _ _;first|refine WN.u64v (m-1) (by omega) ?_|refine WN.i64 (by omega) (by omega) ?_|refine WN.u64 (by omega) (by omega) ?_)|((first|refine oI.z ?_|refine cI.z ?_))|intro (_:Nat)) <;> (conv=>whnf))|(refine cnd_lt (fun _=>?_) (fun _=>?_) <;> first|(exfalso;omega)|(conv=>whnf))
 refine CN.f rfl (NatOf_i _ _ m (by omega) (by omega)) (fun v h' hl hr=>?_)
 obtain ⟨s',rfl,hs'⟩:=hr
 conv=>whnf
 repeat ((first|refine oI.z ?_|refine cI.z ?_);conv=>whnf)
 refine CN.f rfl (NatOf_ct _ 1 (by omega)) (fun v h' hl hr=>?_)
 obtain ⟨t',rfl,ht'⟩:=hr
 conv=>whnf
 repeat ((first|refine oI.z ?_|refine cI.z ?_);conv=>whnf)
 repeat' first|((first|(show CN _ _ _ _ _ _;(refine CN.f rfl (Make_ct _ _ _ _ m 1 (by (iterate 30 try first|assumption|refine IsRef.mono ?_ (by assumption));first|done|assumption) (by assumption) (by omega) (by omega)) (fun v h' hl hr=>?_);obtain ⟨a',b',rfl,hq'⟩:=hr))|((first|refine oI.z ?_|refine cI.z ?_))|refine LdN.o 0 rfl rfl ?_|refine Sto.l 0 rfl rfl rfl ?_) <;> (conv=>whnf))
 exact RN.a ⟨_,_,rfl,(by assumption)⟩
theorem IntQ_ct (h:Heap) (n:Int) (h1:-9223372036854775808≤n) (h2:n≤9223372036854775807):
  Fn0 T F.ref01_Int [.int .i64 n] h fun v h'=>∃s t:Sl,v=.agg #[.bool (sg (n:Rat)),s.val,t.val]∧IsQ h' s t (n:Rat):=by
 by_cases hn:n<0
 ·exact Int_neg h n h1 hn
 ·exact Int_ct h n (by omega) h2

end Go.Proofs.YtbgicephinomlaaGreatDoor