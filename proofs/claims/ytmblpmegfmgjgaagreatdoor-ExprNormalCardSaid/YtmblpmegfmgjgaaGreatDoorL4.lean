/- Contracts of package number's functions, second part: operations on one number, products and quotients, rounding, comparison, powers, ints. -/
import Derived.Test.YtmblpmegfmgjgaaGreatDoorW10
import Derived.Test.YtmblpmegfmgjgaaGreatDoorRep3
import Derived.Test.YtmblpmegfmgjgaaGreatDoorL3
set_option linter.unusedVariables false
set_option linter.unusedSimpArgs false
set_option maxHeartbeats 1000000
set_option maxRecDepth 20000
namespace Go.Proofs.YtmblpmegfmgjgaaGreatDoor
open Go Go.Vc Go.Dig

def spec1 (op:Rat→Rat) (n:Bool) (l m:List Nat):Rat × Int:=
 if okR n l m then outR (op (ratOf n l m)) else (0,1)
def Op1 (f:FuncId) (op:Rat→Rat):Prop:=∀(h:Heap) (a b:Sl) (q:Rat),Tb h→IsFr h a b q→Sz 64 q→
 Fn0 T f [.agg #[.bool (sg q),a.val,b.val]] h fun v h'=>∃s t:Sl,v=.agg #[.bool (sg (op q)),s.val,t.val]∧IsFr h' s t (op q)

theorem one_ct (h:Heap) (tb:Tb h) (n1:Bool) (a1 b1:Sl) (l1 m1:List Nat) (hv1:IsVal h a1 b1 l1 m1)
  (f:FuncId) (op:Rat→Rat) (hf:T.fn f=true) (hop:Op1 f op) (hsz:∀q,Sz 64 q→Sz 1073741824 (op q)):
  Fn0 T F.number_one [.agg #[.bool n1,a1.val,b1.val],.func (.func f) #[] #[]] h fun v h'=>Res h' v (spec1 op n1 l1 m1):=by
 have f1:okR n1 l1 m1→spec1 op n1 l1 m1=outR (op (ratOf n1 l1 m1)):=fun x=>if_pos x
 have f2:¬okR n1 l1 m1→spec1 op n1 l1 m1=(0,1):=fun x=>if_neg x
 refine fn0_of_codeI ok D.number_one rfl ?_
 conv=>whnf
 repeat ((first|refine opsI.step ?_|refine codeI.step ?_);conv=>whnf)
 repeat' first|((first|(show CallN _ _ _ _ _ _;(refine CallN.fn rfl (Read_ct _ (by assumption) _ _ _ l1 m1 (by assumption)) (fun v h' hle1 hr=>?_);obtain ⟨s1,c1,d1,rfl,hok1⟩:=hr))|((first|refine opsI.step ?_|refine codeI.step ?_))|intro (_:Nat)|(show LdN _ _ _ _ _;first|refine LdN.own 0 rfl rfl ?_|refine LdN.own 1 rfl rfl ?_)|(show Sto _ _ _ _;first|refine Sto.lit 0 rfl rfl rfl ?_|refine Sto.lit 1 rfl rfl rfl ?_)) <;> (conv=>whnf))|(show cnd _ _ _;first|(refine cnd_not ?_)|(refine cnd_dec (fun _=>?_) (fun _=>?_) <;> first|(exfalso;omega)|(conv=>whnf)))
 ·obtain ⟨rfl,g1⟩:=hok1 (by assumption)
  have z1:=okR.sz (show okR n1 l1 m1 by assumption)
  have z3:=hsz _ z1
  rw [f1 (by assumption)]
  refine CallN.fn hf (hop _ _ _ _ (by (iterate 30 try first|assumption|refine Tb.mono ?_ (by assumption));first|done|assumption) (by assumption) z1) (fun v h3 hle3 hr=>?_)
  obtain ⟨s,t,rfl,hq⟩:=hr
  conv=>whnf
  repeat ((first|refine opsI.step ?_|refine codeI.step ?_);conv=>whnf)
  repeat' first|((first|(show CallN _ _ _ _ _ _;(refine CallN.fn rfl (Give_ct _ _ _ _ (by assumption) z3) (fun v h' hl hr=>?_);obtain ⟨e1,e2,rfl,hq'⟩:=hr))|((first|refine opsI.step ?_|refine codeI.step ?_))|refine LdN.own 1 rfl rfl ?_|refine Sto.lit 1 rfl rfl rfl ?_) <;> (conv=>whnf))
  exact RetN.all ⟨_,_,rfl,(by assumption)⟩
 ·rw [f2 (by assumption)];exact RetN.all (Res.err _ _)

theorem Op1.id:Op1 F.number_Canon_1 (fun q=>q):=fun h a b q tb h1 z1=>by
 refine fn0_of_codeI ok D.number_Canon_1 rfl ?_
 conv=>whnf
 repeat ((first|refine opsI.step ?_|refine codeI.step ?_);conv=>whnf)
 repeat' first|((first|((first|refine opsI.step ?_|refine codeI.step ?_))|intro (_:Nat)|(show LdN _ _ _ _ _;first|refine LdN.own 0 rfl rfl ?_|refine LdN.own 1 rfl rfl ?_)|refine Sto.lit 0 rfl rfl rfl ?_) <;> (conv=>whnf))
 exact RetN.all ⟨_,_,rfl,(by assumption)⟩
theorem NCanon_ct (h:Heap) (tb:Tb h) (n1:Bool) (a1 b1:Sl) (l1 m1:List Nat) (hv1:IsVal h a1 b1 l1 m1):
  Fn0 T F.number_Canon [.agg #[.bool n1,a1.val,b1.val]] h fun v h'=>Res h' v (spec1 (fun q=>q) n1 l1 m1):=by
 refine fn0_of_codeI ok D.number_Canon rfl ?_
 conv=>whnf
 repeat ((first|refine opsI.step ?_|refine codeI.step ?_);conv=>whnf)
 repeat' first|((first|(show CallN _ _ _ _ _ _;(refine CallN.fn rfl (one_ct _ (by assumption) _ _ _ _ _ (by assumption) _ _ rfl Op1.id (fun q a=>a.mono (by decide))) (fun v h' hl hr=>?_);obtain ⟨e1,e2,rfl,hq'⟩:=hr))|((first|refine opsI.step ?_|refine codeI.step ?_))|intro (_:Nat)|(show LdN _ _ _ _ _;first|refine LdN.own 0 rfl rfl ?_|refine LdN.own 1 rfl rfl ?_)|refine Sto.lit 0 rfl rfl rfl ?_) <;> (conv=>whnf))
 exact RetN.all ⟨_,_,rfl,(by assumption)⟩

def specDiv (n1:Bool) (l1 m1:List Nat) (n2:Bool) (l2 m2:List Nat):Rat × Int:=
 if okR n1 l1 m1∧okR n2 l2 m2 then (if nu (ratOf n2 l2 m2)=0 then (0,10) else outR (ratOf n1 l1 m1 / ratOf n2 l2 m2)) else (0,1)
def specGrid (up:Bool) (n:Bool) (l m:List Nat) (p:Int):Rat × Int:=
 if okR n l m then (if p<0∨256<p then (0,2) else outR (gridQ (ratOf n l m) p.toNat up)) else (0,1)
def specCmp (n1:Bool) (l1 m1:List Nat) (n2:Bool) (l2 m2:List Nat):Int × Int:=
 if okR n1 l1 m1∧okR n2 l2 m2 then (cmpQ (ratOf n1 l1 m1) (ratOf n2 l2 m2),0) else (0,1)
def specPow (n1:Bool) (l1 m1:List Nat) (n:Int):Rat × Int:=
 if okR n1 l1 m1 then (if n < -32∨32<n then (0,2) else if n<0∧nu (ratOf n1 l1 m1)=0 then (0,10) else outR (powQ (ratOf n1 l1 m1) n)) else (0,1)
theorem ln_pow {b:Nat} (hb:2≤b) (a n:Nat):ln b (a^n)≤n*ln b a+1:=by
 rw [ln_le_iff hb]
 have h1:a≤b^ln b a:=Nat.le_of_lt ((ln_le_iff hb).1 (Nat.le_refl _))
 have h2:a^n≤b^(ln b a*n):=by rw [Nat.pow_mul];exact Nat.pow_le_pow_left h1 n
 rw [Nat.mul_comm n]
 exact Nat.lt_of_le_of_lt h2 (Nat.pow_lt_pow_right (by omega) (by omega))
theorem fits_int (n:Int) (h1:-9223372036854775808≤n) (h2:n≤9223372036854775807):fits (n:Rat):=by
 have a:=(ln_le_iff (k:=2) two_le_B).2 (show nu (n:Rat)<4294967296^2 by rw [nu_int];omega)
 refine ⟨by omega,?_⟩
 rw [den_int,ln_one _ two_le_B];decide
def bitsQ (q:Rat):Int:=mm true (bl (nu q):Nat) (bl q.den:Nat)
def specBits (n1:Bool) (l1 m1:List Nat):Int × Int:=if okR n1 l1 m1 then (bitsQ (ratOf n1 l1 m1),0) else (0,1)

theorem RCmp_ct (h:Heap) (a b c d:Sl) (q r:Rat) (hq:IsQ h a b q) (hr:IsQ h c d r) (hs:Sr 65536 q) (hs':Sr 65536 r):
  Fn0 T F.ref01_Cmp [.agg #[.bool (sg q),a.val,b.val],.agg #[.bool (sg r),c.val,d.val]] h fun v _=>v=.int .i64 (cmpQ q r):=by
 have y1:Sr 1073741824 q:=hs.mono (by decide)
 have y2:Sr 1073741824 r:=hs'.mono (by decide)
 have y3:Sr 1099511627776 (q-r):=by rw [Rat.sub_eq_add_neg];exact (sr_add hs (Sr.neg hs')).mono (by decide)
 have e:=cmpQ_sub q r
 refine fn0_of_codeI ok D.ref01_Cmp rfl ?_
 conv=>whnf
 repeat ((first|refine opsI.step ?_|refine codeI.step ?_);conv=>whnf)
 repeat' first|((first|(show CallN _ _ _ _ _ _;first|(refine CallN.fn rfl (Diff_ct _ _ _ _ _ _ _ (by assumption) (by assumption) y1 y2) (fun v h' hl hr=>?_);obtain ⟨e1,e2,rfl,hq'⟩:=hr)|refine CallN.quiet rfl (Sgn_q _ _ _ _ (by assumption) y3) ?_)|((first|refine opsI.step ?_|refine codeI.step ?_))|intro (_:Nat)|(show LdN _ _ _ _ _;first|refine LdN.own 0 rfl rfl ?_|refine LdN.own 1 rfl rfl ?_)) <;> (conv=>whnf))
 exact RetN.all (by rw [e])


theorem NatOf_i (h:Heap) (n:Int) (N:Nat) (hn:n=N) (hN:N<18446744073709551616):Fn0 T F.ref01_NatOf [.int .u64 n] h fun v h'=>∃s':Sl,v=s'.val∧IsRef h' s' N:=by
 subst hn;exact NatOf_ct h N hN
theorem Int_neg (h:Heap) (n:Int) (h1:-9223372036854775808≤n) (h2:n<0):
  Fn0 T F.ref01_Int [.int .i64 n] h fun v h'=>∃s t:Sl,v=.agg #[.bool (sg (n:Rat)),s.val,t.val]∧IsQ h' s t (n:Rat):=by
 obtain ⟨m,hm⟩:∃m,m=n.natAbs:=⟨_,rfl⟩
 have e:(n:Rat)=mkQ true m 1:=by
  have:=mkQ_self (n:Rat)
  rw [sg_int,nu_int,den_int,decide_eq_true h2,← hm] at this
  exact this.symm
 have hnm:n=-(m:Int):=by omega
 have p1:ln 65536 m≤4:=(ln_le_iff two_le_b).2 (by omega)
 have p2:=ln_one 65536 two_le_b
 rw [e]
 clear e
 refine fn0_of_codeI ok D.ref01_Int rfl ?_
 conv=>whnf
 repeat ((first|refine opsI.step ?_|refine codeI.step ?_);conv=>whnf)
 repeat' first|((first|(show WrapN _ _ _;first|refine WrapN.u64v (m-1) (by omega) ?_|refine WrapN.i64 (by omega) (by omega) ?_|refine WrapN.u64 (by omega) (by omega) ?_)|((first|refine opsI.step ?_|refine codeI.step ?_))|intro (_:Nat)) <;> (conv=>whnf))|(refine cnd_lt (fun _=>?_) (fun _=>?_) <;> first|(exfalso;omega)|(conv=>whnf))
 refine CallN.fn rfl (NatOf_i _ _ m (by omega) (by omega)) (fun v h' hl hr=>?_)
 obtain ⟨s',rfl,hs'⟩:=hr
 conv=>whnf
 repeat ((first|refine opsI.step ?_|refine codeI.step ?_);conv=>whnf)
 refine CallN.fn rfl (NatOf_ct _ 1 (by omega)) (fun v h' hl hr=>?_)
 obtain ⟨t',rfl,ht'⟩:=hr
 conv=>whnf
 repeat ((first|refine opsI.step ?_|refine codeI.step ?_);conv=>whnf)
 repeat' first|((first|(show CallN _ _ _ _ _ _;(refine CallN.fn rfl (Make_ct _ _ _ _ m 1 (by (iterate 30 try first|assumption|refine IsRef.mono ?_ (by assumption));first|done|assumption) (by assumption) (by omega) (by omega)) (fun v h' hl hr=>?_);obtain ⟨a',b',rfl,hq'⟩:=hr))|((first|refine opsI.step ?_|refine codeI.step ?_))|refine LdN.own 0 rfl rfl ?_|refine Sto.lit 0 rfl rfl rfl ?_) <;> (conv=>whnf))
 exact RetN.all ⟨_,_,rfl,(by assumption)⟩
theorem IntQ_ct (h:Heap) (n:Int) (h1:-9223372036854775808≤n) (h2:n≤9223372036854775807):
  Fn0 T F.ref01_Int [.int .i64 n] h fun v h'=>∃s t:Sl,v=.agg #[.bool (sg (n:Rat)),s.val,t.val]∧IsQ h' s t (n:Rat):=by
 by_cases hn:n<0
 ·exact Int_neg h n h1 hn
 ·exact Int_ct h n (by omega) h2

end Go.Proofs.YtmblpmegfmgjgaaGreatDoor