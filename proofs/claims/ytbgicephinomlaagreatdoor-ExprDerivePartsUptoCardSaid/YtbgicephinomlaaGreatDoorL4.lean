/- Contracts of package number's functions, second part: operations on one number, products and quotients, rounding, comparison, powers, ints. -/
import Derived.Test.YtbgicephinomlaaGreatDoorW10
import Derived.Test.YtbgicephinomlaaGreatDoorRep3
import Derived.Test.YtbgicephinomlaaGreatDoorL3
set_option linter.unusedVariables false
set_option linter.unusedSimpArgs false
set_option maxHeartbeats 1000000
set_option maxRecDepth 20000
namespace Go.Proofs.YtbgicephinomlaaGreatDoor
open Go Go.Vc Go.Dig

def spec1 (op:Rat→Rat) (n:Bool) (l m:List Nat):Rat × Int:=
 if okR n l m then outR (op (ratOf n l m)) else (0,1)
def Op1 (f:FuncId) (op:Rat→Rat):Prop:=∀(h:Heap) (a b:Sl) (q:Rat),Tb h→IsFr h a b q→Sz 64 q→
 Fn0 T f [.agg #[.bool (sg q),a.val,b.val]] h fun v h'=>∃s t:Sl,v=.agg #[.bool (sg (op q)),s.val,t.val]∧IsFr h' s t (op q)

theorem one_ct (h:Heap) (tb:Tb h) (n1:Bool) (a1 b1:Sl) (l1 m1:List Nat) (hv1:IsVal h a1 b1 l1 m1)
  (f:FuncId) (op:Rat→Rat) (hf:T.fn f=true) (hop:Op1 f op) (hsz:∀q,Sz 64 q→Sz 1073741824 (op q)):
  Fn0 T F.number_one [.agg #[.bool n1,a1.val,b1.val],.func (.func f) #[] #[]] h fun v h'=>Res h' v (spec1 op n1 l1 m1):=by
 have f1:okR n1 l1 m1→spec1 op n1 l1 m1=outR (op (ratOf n1 l1 m1)):=fun x=>if_pos x
 have f2:¬okR n1 l1 m1→spec1 op n1 l1 m1=(0,1):=fun x=>if_neg x
 refine f0C ok D.number_one rfl ?_
 conv=>whnf
 repeat ((first|refine oI.z ?_|refine cI.z ?_);conv=>whnf)
 repeat' first|((first|(show CN _ _ _ _ _ _;(refine CN.f rfl (Read_ct _ (by assumption) _ _ _ l1 m1 (by assumption)) (fun v h' hle1 hr=>?_);obtain ⟨s1,c1,d1,rfl,hok1⟩:=hr))|((first|refine oI.z ?_|refine cI.z ?_))|intro (_:Nat)|(show LdN _ _ _ _ _;first|refine LdN.o 0 rfl rfl ?_|refine LdN.o 1 rfl rfl ?_)|(show Sto _ _ _ _;first|refine Sto.l 0 rfl rfl rfl ?_|refine Sto.l 1 rfl rfl rfl ?_)) <;> (conv=>whnf))|(show cnd _ _ _;first|(refine cnd_not ?_)|(refine cnd_dec (fun _=>?_) (fun _=>?_) <;> first|(exfalso;omega)|(conv=>whnf)))
 ·obtain ⟨rfl,g1⟩:=hok1 (by assumption)
  have z1:=okR.sz (show okR n1 l1 m1 by assumption)
  have z3:=hsz _ z1
  rw [f1 (by assumption)]
  refine CN.f hf (hop _ _ _ _ (by (iterate 30 try first|assumption|refine Tb.mono ?_ (by assumption));first|done|assumption) (by assumption) z1) (fun v h3 hle3 hr=>?_)
  obtain ⟨s,t,rfl,hq⟩:=hr
  conv=>whnf
  repeat ((first|refine oI.z ?_|refine cI.z ?_);conv=>whnf)
  repeat' first|((first|(show CN _ _ _ _ _ _;(refine CN.f rfl (Give_ct _ _ _ _ (by assumption) z3) (fun v h' hl hr=>?_);obtain ⟨e1,e2,rfl,hq'⟩:=hr))|((first|refine oI.z ?_|refine cI.z ?_))|refine LdN.o 1 rfl rfl ?_|refine Sto.l 1 rfl rfl rfl ?_) <;> (conv=>whnf))
  exact RN.a ⟨_,_,rfl,(by assumption)⟩
 ·rw [f2 (by assumption)];exact RN.a (Res.err _ _)

theorem Op1.id:Op1 F.number_Canon_1 (fun q=>q):=fun h a b q tb h1 z1=>by
 refine f0C ok D.number_Canon_1 rfl ?_
 conv=>whnf
 repeat ((first|refine oI.z ?_|refine cI.z ?_);conv=>whnf)
 repeat' first|((first|((first|refine oI.z ?_|refine cI.z ?_))|intro (_:Nat)|(show LdN _ _ _ _ _;first|refine LdN.o 0 rfl rfl ?_|refine LdN.o 1 rfl rfl ?_)|refine Sto.l 0 rfl rfl rfl ?_) <;> (conv=>whnf))
 exact RN.a ⟨_,_,rfl,(by assumption)⟩
theorem NCanon_ct (h:Heap) (tb:Tb h) (n1:Bool) (a1 b1:Sl) (l1 m1:List Nat) (hv1:IsVal h a1 b1 l1 m1):
  Fn0 T F.number_Canon [.agg #[.bool n1,a1.val,b1.val]] h fun v h'=>Res h' v (spec1 (fun q=>q) n1 l1 m1):=by
 refine f0C ok D.number_Canon rfl ?_
 conv=>whnf
 repeat ((first|refine oI.z ?_|refine cI.z ?_);conv=>whnf)
 repeat' first|((first|(show CN _ _ _ _ _ _;(refine CN.f rfl (one_ct _ (by assumption) _ _ _ _ _ (by assumption) _ _ rfl Op1.id (fun q a=>a.mono (by decide))) (fun v h' hl hr=>?_);obtain ⟨e1,e2,rfl,hq'⟩:=hr))|((first|refine oI.z ?_|refine cI.z ?_))|intro (_:Nat)|(show LdN _ _ _ _ _;first|refine LdN.o 0 rfl rfl ?_|refine LdN.o 1 rfl rfl ?_)|refine Sto.l 0 rfl rfl rfl ?_) <;> (conv=>whnf))
 exact RN.a ⟨_,_,rfl,(by assumption)⟩

theorem NMul_ct (h:Heap) (tb:Tb h) (n1:Bool) (a1 b1:Sl) (l1 m1:List Nat) (n2:Bool) (a2 b2:Sl) (l2 m2:List Nat) (hv1:IsVal h a1 b1 l1 m1) (hv2:IsVal h a2 b2 l2 m2):
  Fn0 T F.number_Mul [.agg #[.bool n1,a1.val,b1.val],.agg #[.bool n2,a2.val,b2.val]] h fun v h'=>Res h' v (spec2 (·*·) n1 l1 m1 n2 l2 m2):=by
 refine f0C ok D.number_Mul rfl ?_
 conv=>whnf
 repeat ((first|refine oI.z ?_|refine cI.z ?_);conv=>whnf)
 repeat' first|((first|(show CN _ _ _ _ _ _;(refine CN.f rfl (two_ct _ (by assumption) _ _ _ _ _ _ _ _ _ _ (by assumption) (by assumption) _ _ rfl Op2.mul (fun q r a b=>(Sz.mul a b).mono (by decide))) (fun v h' hl hr=>?_);obtain ⟨e1,e2,rfl,hq'⟩:=hr))|((first|refine oI.z ?_|refine cI.z ?_))|intro (_:Nat)|(show LdN _ _ _ _ _;first|refine LdN.o 0 rfl rfl ?_|refine LdN.o 1 rfl rfl ?_|refine LdN.o 2 rfl rfl ?_)|refine Sto.l 0 rfl rfl rfl ?_) <;> (conv=>whnf))
 exact RN.a ⟨_,_,rfl,(by assumption)⟩

def specDiv (n1:Bool) (l1 m1:List Nat) (n2:Bool) (l2 m2:List Nat):Rat × Int:=
 if okR n1 l1 m1∧okR n2 l2 m2 then (if nu (ratOf n2 l2 m2)=0 then (0,10) else outR (ratOf n1 l1 m1 / ratOf n2 l2 m2)) else (0,1)
theorem Sz.inv {k:Nat} {q:Rat} (s:Sz k q) (h:nu q≠0):Sz k q⁻¹:=⟨by rw [nu_inv q h];exact s.den,by rw [den_inv q h];exact s.num⟩
theorem NDiv_ct (h:Heap) (tb:Tb h) (n1:Bool) (a1 b1:Sl) (l1 m1:List Nat) (n2:Bool) (a2 b2:Sl) (l2 m2:List Nat) (hv1:IsVal h a1 b1 l1 m1) (hv2:IsVal h a2 b2 l2 m2):
  Fn0 T F.number_Div [.agg #[.bool n1,a1.val,b1.val],.agg #[.bool n2,a2.val,b2.val]] h fun v h'=>Res h' v (specDiv n1 l1 m1 n2 l2 m2):=by
 have f1:okR n1 l1 m1→okR n2 l2 m2→nu (ratOf n2 l2 m2)≠0→specDiv n1 l1 m1 n2 l2 m2=outR (ratOf n1 l1 m1*(ratOf n2 l2 m2)⁻¹):=fun x y z=>by unfold specDiv;rw [if_pos ⟨x,y⟩,if_neg z,Rat.div_def]
 have f2:¬okR n1 l1 m1→specDiv n1 l1 m1 n2 l2 m2=(0,1):=fun x=>if_neg fun y=>x y.1
 have f3:¬okR n2 l2 m2→specDiv n1 l1 m1 n2 l2 m2=(0,1):=fun x=>if_neg fun y=>x y.2
 have f4:okR n1 l1 m1→okR n2 l2 m2→nu (ratOf n2 l2 m2)=0→specDiv n1 l1 m1 n2 l2 m2=(0,10):=fun x y z=>by unfold specDiv;rw [if_pos ⟨x,y⟩,if_pos z]
 refine f0C ok D.number_Div rfl ?_
 conv=>whnf
 repeat ((first|refine oI.z ?_|refine cI.z ?_);conv=>whnf)
 repeat' first|((first|(show CN _ _ _ _ _ _;first|(refine CN.f rfl (Read_ct _ (by (iterate 30 try first|assumption|refine Tb.mono ?_ (by assumption));first|done|assumption) _ _ _ l1 m1 (by (iterate 30 try first|assumption|refine IsVal.mono ?_ (by assumption));first|done|assumption)) (fun v h' hle1 hr=>?_);obtain ⟨s1,c1,d1,rfl,hok1⟩:=hr)|(refine CN.f rfl (Read_ct _ (by (iterate 30 try first|assumption|refine Tb.mono ?_ (by assumption));first|done|assumption) _ _ _ l2 m2 (by (iterate 30 try first|assumption|refine IsVal.mono ?_ (by assumption));first|done|assumption)) (fun v h' hle2 hr=>?_);obtain ⟨s2,c2,d2,rfl,hok2⟩:=hr))|((first|refine oI.z ?_|refine cI.z ?_))|intro (_:Nat)|refine LdN.o 2 rfl rfl ?_|refine Ld.o 0 rfl rfl ?_|(show Sto _ _ _ _;first|refine Sto.l 0 rfl rfl rfl ?_|refine Sto.l 2 rfl rfl rfl ?_)) <;> (conv=>whnf))|(show cnd _ _ _;first|(refine cnd_not ?_)|(refine cnd_dec (fun _=>?_) (fun _=>?_) <;> first|(exfalso;omega)|(conv=>whnf)))
 all_goals first
  | (rw [f2 (by assumption)];exact RN.a (Res.err _ _))
  | (rw [f3 (by assumption)];exact RN.a (Res.err _ _))
  | skip
 obtain ⟨rfl,g1⟩:=hok1 (by assumption)
 obtain ⟨rfl,g2⟩:=hok2 (by assumption)
 have k1:okR n1 l1 m1:=by assumption
 have k2:okR n2 l2 m2:=by assumption
 have z1:=okR.sz k1
 have z2:=okR.sz k2
 have y1:Sz 1073741824 (ratOf n1 l1 m1):=z1.mono (by decide)
 have t2:=z2.num
 have i2:=g2.num
 have g4:=f4 k1 k2
 have g1':=f1 k1 k2
 obtain ⟨q,hq⟩:∃q,q=ratOf n1 l1 m1:=⟨_,rfl⟩
 obtain ⟨r,hr⟩:∃r,r=ratOf n2 l2 m2:=⟨_,rfl⟩
 rw [← hq] at g1 z1 y1 g1'
 rw [← hr] at g2 z2 t2 i2 g4 g1'
 rw [← hq,← hr]
 have y2:nu r≠0→Sz 1073741824 r⁻¹:=fun hz=>(Sz.inv z2 hz).mono (by decide)
 have y3:nu r≠0→Sz 1073741824 (q*r⁻¹):=fun hz=>(Sz.mul z1 (Sz.inv z2 hz)).mono (by decide)
 repeat' first|((first|(show CN _ _ _ _ _ _;first|refine CN.quiet rfl (Zero_ct _ _ _ (by assumption) (by omega)) ?_|(refine CN.quiet rfl (Inverse_ct _ _ _ _ (by assumption) (by assumption)) ?_;have g3:=IsFr.inv (show IsFr _ _ _ r from (by assumption)) (by assumption))|(refine CN.f rfl (FMul_ct _ (by (iterate 30 try first|assumption|refine Tb.mono ?_ (by assumption));first|done|assumption) _ _ _ _ q r⁻¹ (by (iterate 30 try first|assumption|refine IsFr.mono ?_ (by assumption));first|done|assumption) (by assumption) y1 (y2 (by assumption))) (fun v h' hl hr=>?_);obtain ⟨e1,e2,rfl,hq'⟩:=hr)|(refine CN.f rfl (Give_ct _ _ _ _ (by assumption) (y3 (by assumption))) (fun v h' hl hr=>?_);obtain ⟨e1,e2,rfl,hq''⟩:=hr))|((first|refine oI.z ?_|refine cI.z ?_))|refine ⟨fun _=>HasLe.o (Heap.lr _),?_⟩|refine ⟨fun _=>HasLe.o (by assumption),?_⟩|refine ⟨fun hst=>(by cases (show true=false from hst)),?_⟩|(show LdN _ _ _ _ _;first|refine LdN.o 0 rfl rfl ?_|refine LdN.o 1 rfl rfl ?_|refine LdN.o 2 rfl rfl ?_)|refine Sto.l 2 rfl rfl rfl ?_|refine DrN.run (by decide +kernel) ?_) <;> (conv=>whnf))|(refine cnd_dec (fun _=>?_) (fun _=>?_) <;> first|(exfalso;omega)|(conv=>whnf))
 all_goals first
  | (rw [g4 (by assumption)];exact RN.a (Res.err _ _))
  | (rw [g1' (by assumption)];exact RN.a ⟨_,_,rfl,(by assumption)⟩)

def specGrid (up:Bool) (n:Bool) (l m:List Nat) (p:Int):Rat × Int:=
 if okR n l m then (if p<0∨256<p then (0,2) else outR (gridQ (ratOf n l m) p.toNat up)) else (0,1)
def specCmp (n1:Bool) (l1 m1:List Nat) (n2:Bool) (l2 m2:List Nat):Int × Int:=
 if okR n1 l1 m1∧okR n2 l2 m2 then (cmpQ (ratOf n1 l1 m1) (ratOf n2 l2 m2),0) else (0,1)
theorem NCompare_ct (h:Heap) (tb:Tb h) (n1:Bool) (a1 b1:Sl) (l1 m1:List Nat) (n2:Bool) (a2 b2:Sl) (l2 m2:List Nat) (hv1:IsVal h a1 b1 l1 m1) (hv2:IsVal h a2 b2 l2 m2):
  Fn0 T F.number_Compare [.agg #[.bool n1,a1.val,b1.val],.agg #[.bool n2,a2.val,b2.val]] h fun v _=>v=.tuple #[.int .i64 (specCmp n1 l1 m1 n2 l2 m2).1,.int .i64 (specCmp n1 l1 m1 n2 l2 m2).2]:=by
 have f1:okR n1 l1 m1→okR n2 l2 m2→specCmp n1 l1 m1 n2 l2 m2=(cmpQ (ratOf n1 l1 m1) (ratOf n2 l2 m2),0):=fun x y=>if_pos ⟨x,y⟩
 have f2:¬okR n1 l1 m1→specCmp n1 l1 m1 n2 l2 m2=(0,1):=fun x=>if_neg fun y=>x y.1
 have f3:¬okR n2 l2 m2→specCmp n1 l1 m1 n2 l2 m2=(0,1):=fun x=>if_neg fun y=>x y.2
 refine f0C ok D.number_Compare rfl ?_
 conv=>whnf
 repeat ((first|refine oI.z ?_|refine cI.z ?_);conv=>whnf)
 repeat' first|((first|(show CN _ _ _ _ _ _;first|(refine CN.f rfl (Read_ct _ (by (iterate 30 try first|assumption|refine Tb.mono ?_ (by assumption));first|done|assumption) _ _ _ l1 m1 (by (iterate 30 try first|assumption|refine IsVal.mono ?_ (by assumption));first|done|assumption)) (fun v h' hle1 hr=>?_);obtain ⟨s1,c1,d1,rfl,hok1⟩:=hr)|(refine CN.f rfl (Read_ct _ (by (iterate 30 try first|assumption|refine Tb.mono ?_ (by assumption));first|done|assumption) _ _ _ l2 m2 (by (iterate 30 try first|assumption|refine IsVal.mono ?_ (by assumption));first|done|assumption)) (fun v h' hle2 hr=>?_);obtain ⟨s2,c2,d2,rfl,hok2⟩:=hr))|((first|refine oI.z ?_|refine cI.z ?_))|intro (_:Nat)|(show LdN _ _ _ _ _;first|refine LdN.o 0 rfl rfl ?_|refine LdN.o 1 rfl rfl ?_)|refine Sto.l 0 rfl rfl rfl ?_) <;> (conv=>whnf))|(show cnd _ _ _;first|(refine cnd_not ?_)|(refine cnd_dec (fun _=>?_) (fun _=>?_) <;> first|(exfalso;omega)|(conv=>whnf)))
 all_goals first
  | (rw [f2 (by assumption)];exact RN.a rfl)
  | (rw [f3 (by assumption)];exact RN.a rfl)
  | skip
 obtain ⟨rfl,g1⟩:=hok1 (by assumption)
 obtain ⟨rfl,g2⟩:=hok2 (by assumption)
 have k1:okR n1 l1 m1:=by assumption
 have k2:okR n2 l2 m2:=by assumption
 have y1:Sz 1073741824 (ratOf n1 l1 m1):=(okR.sz k1).mono (by decide)
 have y2:Sz 1073741824 (ratOf n2 l2 m2):=(okR.sz k2).mono (by decide)
 rw [f1 k1 k2]
 repeat' first|((first|(show CN _ _ _ _ _ _;(refine CN.f rfl (FCmp_ct _ _ _ _ _ _ _ (by (iterate 30 try first|assumption|refine IsFr.mono ?_ (by assumption));first|done|assumption) (by assumption) y1 y2) (fun v h' hl hr=>?_);obtain rfl:=hr))|((first|refine oI.z ?_|refine cI.z ?_))) <;> (conv=>whnf))
 exact RN.a rfl

def specPow (n1:Bool) (l1 m1:List Nat) (n:Int):Rat × Int:=
 if okR n1 l1 m1 then (if n < -32∨32<n then (0,2) else if n<0∧nu (ratOf n1 l1 m1)=0 then (0,10) else outR (powQ (ratOf n1 l1 m1) n)) else (0,1)
theorem ln_pow {b:Nat} (hb:2≤b) (a n:Nat):ln b (a^n)≤n*ln b a+1:=by
 rw [ln_le_iff hb]
 have h1:a≤b^ln b a:=Nat.le_of_lt ((ln_le_iff hb).1 (Nat.le_refl _))
 have h2:a^n≤b^(ln b a*n):=by rw [Nat.pow_mul];exact Nat.pow_le_pow_left h1 n
 rw [Nat.mul_comm n]
 exact Nat.lt_of_le_of_lt h2 (Nat.pow_lt_pow_right (by omega) (by omega))
theorem Sz.pow {q:Rat} (s:Sz 64 q) {n:Nat} (hn:n≤32):Sz 4096 (q^n):=by
 have h1:=ln_pow tlB (nu q) n
 have h2:=ln_pow tlB q.den n
 have a1:=s.num
 have a2:=s.den
 have b1:n*ln 4294967296 (nu q)≤32*64:=Nat.mul_le_mul hn a1
 have b2:n*ln 4294967296 q.den≤32*64:=Nat.mul_le_mul hn a2
 refine ⟨?_,?_⟩
 ·rw [nu_pow];omega
 ·rw [Rat.den_pow];omega
theorem FPow_i (h:Heap) (a b:Sl) (q:Rat) (n:Int) (N:Nat) (hnN:n=N) (hq:IsFr h a b q) (hs:Sz 65536 q) (hn:N≤65536):
  Fn0 T F.word_Frac_Pow [.agg #[.bool (sg q),a.val,b.val],.int .i64 n] h fun v h'=>∃s t:Sl,v=.agg #[.bool (sg (q^N)),s.val,t.val]∧IsFr h' s t (q^N):=by
 subst hnN;exact FPow_ct h a b q N hq hs hn
theorem NPow_ct (h:Heap) (tb:Tb h) (n1:Bool) (a1 b1:Sl) (l1 m1:List Nat) (hv1:IsVal h a1 b1 l1 m1) (n:Int) (hn1:-9223372036854775808≤n) (hn2:n≤9223372036854775807):
  Fn0 T F.number_Pow [.agg #[.bool n1,a1.val,b1.val],.int .i64 n] h fun v h'=>Res h' v (specPow n1 l1 m1 n):=by
 have f2:¬okR n1 l1 m1→specPow n1 l1 m1 n=(0,1):=fun x=>if_neg x
 have f3:okR n1 l1 m1→(n < -32∨32<n)→specPow n1 l1 m1 n=(0,2):=fun x y=>by unfold specPow;rw [if_pos x,if_pos y]
 have f4:okR n1 l1 m1→¬(n < -32∨32<n)→n<0→nu (ratOf n1 l1 m1)=0→specPow n1 l1 m1 n=(0,10):=fun x y z w=>by unfold specPow;rw [if_pos x,if_neg y,if_pos ⟨z,w⟩]
 have f5:okR n1 l1 m1→¬(n < -32∨32<n)→n<0→nu (ratOf n1 l1 m1)≠0→specPow n1 l1 m1 n=outR ((ratOf n1 l1 m1)⁻¹^(-n).toNat):=fun x y z w=>by unfold specPow powQ;rw [if_pos x,if_neg y,if_neg (fun hh=>w hh.2),if_pos z]
 have f6:okR n1 l1 m1→¬(n < -32∨32<n)→¬n<0→specPow n1 l1 m1 n=outR (ratOf n1 l1 m1^n.toNat):=fun x y z=>by unfold specPow powQ;rw [if_pos x,if_neg y,if_neg (fun hh=>z hh.1),if_neg z]
 obtain ⟨P,hP⟩:∃P:Nat,P=(-n).toNat:=⟨_,rfl⟩
 obtain ⟨R,hR⟩:∃R:Nat,R=n.toNat:=⟨_,rfl⟩
 rw [← hP] at f5
 rw [← hR] at f6
 refine f0C ok D.number_Pow rfl ?_
 conv=>whnf
 repeat ((first|refine oI.z ?_|refine cI.z ?_);conv=>whnf)
 repeat' first|((first|(show SeqN _ _ _ _ _ _ _;refine SeqN.go ?_)|(show CN _ _ _ _ _ _;(refine CN.f rfl (Read_ct _ (by assumption) _ _ _ l1 m1 (by assumption)) (fun v h' hle1 hr=>?_);obtain ⟨s1,c1,d1,rfl,hok1⟩:=hr))|((first|refine oI.z ?_|refine cI.z ?_))|intro (_:Nat)|(show LdN _ _ _ _ _;first|refine LdN.o 0 rfl rfl ?_|refine LdN.o 1 rfl rfl ?_)|refine Ld.o 0 rfl rfl ?_|(show Sto _ _ _ _;first|refine Sto.l 0 rfl rfl rfl ?_|refine Sto.l 1 rfl rfl rfl ?_)) <;> (conv=>whnf))|(show cnd _ _ _;first|(refine cnd_lt (fun _=>?_) (fun _=>?_) <;> first|(exfalso;omega)|(conv=>whnf))|(refine cnd_not ?_)|(refine cnd_dec (fun _=>?_) (fun _=>?_) <;> first|(exfalso;omega)|(conv=>whnf)))
 all_goals first
  | (rw [f2 (by assumption)];exact RN.a (Res.err _ _))
  | (rw [f3 (by assumption) (by omega)];exact RN.a (Res.err _ _))
  | skip
 all_goals
  obtain ⟨rfl,g1⟩:=hok1 (by assumption)
  have k1:okR n1 l1 m1:=by assumption
  have z1:=okR.sz k1
  have t2:=z1.num
  have i2:=g1.num
  replace f4:=f4 k1 (by omega)
  replace f5:=f5 k1 (by omega)
  replace f6:=f6 k1 (by omega)
  obtain ⟨q,hq⟩:∃q,q=ratOf n1 l1 m1:=⟨_,rfl⟩
  rw [← hq] at g1 z1 t2 i2 f4 f5 f6
  rw [← hq]
  have y1:Sz 65536 q:=z1.mono (by decide)
  have y2:nu q≠0→Sz 65536 q⁻¹:=fun hz=>(Sz.inv z1 hz).mono (by decide)
  have y3:nu q≠0→P≤32→Sz 1073741824 (q⁻¹^P):=fun hz hp=>(Sz.pow (Sz.inv z1 hz) hp).mono (by decide)
  have y4:R≤32→Sz 1073741824 (q^R):=fun hp=>(Sz.pow z1 hp).mono (by decide)
 all_goals (repeat' first|((first|(show CN _ _ _ _ _ _;first|refine CN.quiet rfl (Zero_ct _ _ _ (by assumption) (by omega)) ?_|(refine CN.quiet rfl (Inverse_ct _ _ _ _ (by assumption) (by assumption)) ?_;have g3:=IsFr.inv (show IsFr _ _ _ q from (by assumption)) (by assumption))|(refine CN.f rfl (FPow_i _ _ _ q⁻¹ _ P (by omega) (by assumption) (y2 (by assumption)) (by omega)) (fun v h' hl hr=>?_);obtain ⟨e1,e2,rfl,hq'⟩:=hr)|(refine CN.f rfl (FPow_i _ _ _ q _ R (by omega) (by assumption) y1 (by omega)) (fun v h' hl hr=>?_);obtain ⟨e1,e2,rfl,hq'⟩:=hr)|(refine CN.f rfl (Give_ct _ _ _ _ (by assumption) (y3 (by assumption) (by omega))) (fun v h' hl hr=>?_);obtain ⟨e1,e2,rfl,hq''⟩:=hr)|(refine CN.f rfl (Give_ct _ _ _ _ (by assumption) (y4 (by omega))) (fun v h' hl hr=>?_);obtain ⟨e1,e2,rfl,hq''⟩:=hr))|((first|refine oI.z ?_|refine cI.z ?_))|refine WN.i64 (by omega) (by omega) ?_|(show LdN _ _ _ _ _;first|refine LdN.o 0 rfl rfl ?_|refine LdN.o 1 rfl rfl ?_)|(show Sto _ _ _ _;first|refine Sto.l 0 rfl rfl rfl ?_|refine Sto.l 1 rfl rfl rfl ?_)) <;> (conv=>whnf))|(show cnd _ _ _;first|(refine cnd_lt (fun _=>?_) (fun _=>?_) <;> first|(exfalso;omega)|(conv=>whnf))|(refine cnd_dec (fun _=>?_) (fun _=>?_) <;> first|(exfalso;omega)|(conv=>whnf))))
 all_goals first
  | (rw [f4 (by omega) (by assumption)];exact RN.a (Res.err _ _))
  | (rw [f5 (by omega) (by assumption)];exact RN.a ⟨_,_,rfl,(by assumption)⟩)
  | (rw [f6 (by omega)];exact RN.a ⟨_,_,rfl,(by assumption)⟩)

theorem fits_int (n:Int) (h1:-9223372036854775808≤n) (h2:n≤9223372036854775807):fits (n:Rat):=by
 have a:=(ln_le_iff (k:=2) tlB).2 (show nu (n:Rat)<4294967296^2 by rw [nu_int];omega)
 refine ⟨by omega,?_⟩
 rw [den_int,ln_one _ tlB];decide
theorem NFromInt_ct (h:Heap) (n:Int) (h1:-9223372036854775808≤n) (h2:n≤9223372036854775807):
  Fn0 T F.number_FromInt [.int .i64 n] h fun v h'=>∃a b:Sl,v=.agg #[.bool (sg (n:Rat)),a.val,b.val]∧IsRat h' a b (n:Rat):=by
 have hf:=fits_int n h1 h2
 have e:outR (n:Rat)=((n:Rat),0):=if_pos hf
 have y:Sz 1073741824 (n:Rat):=⟨Nat.le_trans hf.1 (by decide),Nat.le_trans hf.2 (by decide)⟩
 obtain ⟨q,hq⟩:∃q,q=(n:Rat):=⟨_,rfl⟩
 rw [← hq] at e y
 rw [← hq]
 refine f0C ok D.number_FromInt rfl ?_
 conv=>whnf
 repeat ((first|refine oI.z ?_|refine cI.z ?_);conv=>whnf)
 repeat' first|((first|(show CN _ _ _ _ _ _;first|(refine CN.f rfl (FInt_ct _ n h1 h2) (fun v h' hl hr=>?_);rw [← hq] at hr;obtain ⟨e1,e2,rfl,hq'⟩:=hr)|(refine CN.f rfl (Give_ct _ _ _ q (by assumption) y) (fun v h' hl hr=>?_);rw [e] at hr;obtain ⟨e1,e2,rfl,hq''⟩:=hr))|((first|refine oI.z ?_|refine cI.z ?_))|intro (_:Nat)|(show LdN _ _ _ _ _;first|refine LdN.o 0 rfl rfl ?_|refine LdN.o 1 rfl rfl ?_)|(show Sto _ _ _ _;first|refine Sto.l 0 rfl rfl rfl ?_|refine Sto.l 1 rfl rfl rfl ?_)) <;> (conv=>whnf))
 exact RN.a ⟨_,_,rfl,(by assumption)⟩

def bitsQ (q:Rat):Int:=mm true (bl (nu q):Nat) (bl q.den:Nat)
def specBits (n1:Bool) (l1 m1:List Nat):Int × Int:=if okR n1 l1 m1 then (bitsQ (ratOf n1 l1 m1),0) else (0,1)

theorem RCmp_ct (h:Heap) (a b c d:Sl) (q r:Rat) (hq:IsQ h a b q) (hr:IsQ h c d r) (hs:Sr 65536 q) (hs':Sr 65536 r):
  Fn0 T F.ref01_Cmp [.agg #[.bool (sg q),a.val,b.val],.agg #[.bool (sg r),c.val,d.val]] h fun v _=>v=.int .i64 (cmpQ q r):=by
 have y1:Sr 1073741824 q:=hs.mono (by decide)
 have y2:Sr 1073741824 r:=hs'.mono (by decide)
 have y3:Sr 1099511627776 (q-r):=by rw [Rat.sub_eq_add_neg];exact (sr_add hs (Sr.neg hs')).mono (by decide)
 have e:=cmpQ_sub q r
 refine f0C ok D.ref01_Cmp rfl ?_
 conv=>whnf
 repeat ((first|refine oI.z ?_|refine cI.z ?_);conv=>whnf)
 repeat' first|((first|(show CN _ _ _ _ _ _;first|(refine CN.f rfl (Diff_ct _ _ _ _ _ _ _ (by assumption) (by assumption) y1 y2) (fun v h' hl hr=>?_);obtain ⟨e1,e2,rfl,hq'⟩:=hr)|refine CN.quiet rfl (Sgn_q _ _ _ _ (by assumption) y3) ?_)|((first|refine oI.z ?_|refine cI.z ?_))|intro (_:Nat)|(show LdN _ _ _ _ _;first|refine LdN.o 0 rfl rfl ?_|refine LdN.o 1 rfl rfl ?_)) <;> (conv=>whnf))
 exact RN.a (by rw [e])


theorem signQ_zero {q:Rat}:signQ q=0↔nu q=0:=by
 unfold signQ
 split
 ·simp_all
 ·split <;> simp_all
theorem sr_mul {k l:Nat} {q r:Rat} (a:Sr k q) (b:Sr l r):Sr (k+l) (q*r):=by
 have h:=mul_le q r
 have p1:=ln_mul tlb (nu q) (nu r)
 have p3:=ln_mul tlb q.den r.den
 have a1:=a.num
 have a2:=a.den
 have b1:=b.num
 have b2:=b.den
 exact ⟨Nat.le_trans (ln_mono tlb h.1) (by omega),Nat.le_trans (ln_mono tlb h.2) (by omega)⟩
theorem sr_inv {k:Nat} {q:Rat} (s:Sr k q) (h:nu q≠0):Sr k q⁻¹:=⟨by rw [nu_inv q h];exact s.den,by rw [den_inv q h];exact s.num⟩

theorem Res.two {h:Heap} {v:Value} {q:Rat} {e:Int} (r:Res h v (q,e)):∃a b:Sl,v=.tuple #[.agg #[.bool (sg q),a.val,b.val],.int .i64 e]∧IsRat h a b q:=r
end Go.Proofs.YtbgicephinomlaaGreatDoor