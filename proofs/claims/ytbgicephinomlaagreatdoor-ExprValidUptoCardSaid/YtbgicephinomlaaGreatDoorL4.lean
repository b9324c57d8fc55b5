/- Contracts of package number's functions, second part: operations on one number, products and quotients, rounding, comparison, powers, ints. -/
import Derived.Test.YtbgicephinomlaaGreatDoorW10
import Derived.Test.YtbgicephinomlaaGreatDoorRep3
import Derived.Test.YtbgicephinomlaaGreatDoorL3
set_option linter.unusedVariables false
set_option linter.unusedSimpArgs false
namespace Go.Proofs.YtbgicephinomlaaGreatDoor
open Go Go.Vc Go.Dig

def spec1 (op:Rat→Rat) (n:Bool) (l m:List Nat):Rat × Int:=
 if okR n l m then outR (op (ratOf n l m)) else (0,1)
def Op1 (f:FuncId) (op:Rat→Rat):Prop:=∀(h:Heap) (a b:Sl) (q:Rat),Tb h→IsFr h a b q→Sz 64 q→
 Fn0 T f [.agg #[.bool (sg q),a.val,b.val]] h fun v h'=>∃s t:Sl,v=.agg #[.bool (sg (op q)),s.val,t.val]∧IsFr h' s t (op q)

set_option maxRecDepth 20000 in
set_option maxHeartbeats 1000000 in
theorem one_ct (h:Heap) (tb:Tb h) (n1:Bool) (a1 b1:Sl) (l1 m1:List Nat) (hv1:IsVal h a1 b1 l1 m1)
  (f:FuncId) (op:Rat→Rat) (hf:T.fn f=true) (hop:Op1 f op) (hsz:∀q,Sz 64 q→Sz 1073741824 (op q)):
  Fn0 T F.number_one [.agg #[.bool n1,a1.val,b1.val],.func (.func f) #[] #[]] h fun v h'=>Res h' v (spec1 op n1 l1 m1):=by
 have f1:okR n1 l1 m1→spec1 op n1 l1 m1=outR (op (ratOf n1 l1 m1)):=fun x=>if_pos x
 have f2:¬okR n1 l1 m1→spec1 op n1 l1 m1=(0,1):=fun x=>if_neg x
 refine fn0_of_codeI ok D.number_one rfl ?_
 conv=>whnf
 repeat ((first | refine opsI.step ?_ | refine codeI.step ?_);conv=>whnf)
 repeat' first | ((first | (show CallN _ _ _ _ _ _;(refine CallN.fn rfl (Read_ct _ (by assumption) _ _ _ l1 m1 (by assumption)) (fun v h' hle1 hr=>?_);obtain ⟨s1,c1,d1,rfl,hok1⟩:=hr)) | ((first | refine opsI.step ?_ | refine codeI.step ?_)) | intro (_:Nat) | (show LdN _ _ _ _ _;first | refine LdN.own 0 rfl rfl ?_ | refine LdN.own 1 rfl rfl ?_) | (show Sto _ _ _ _;first | refine Sto.lit 0 rfl rfl rfl ?_ | refine Sto.lit 1 rfl rfl rfl ?_)) <;> (conv=>whnf)) | (show cnd _ _ _;first | (refine cnd_not ?_) | (refine cnd_dec (fun _=>?_) (fun _=>?_) <;> first | (exfalso;omega) | (conv=>whnf)))
 ·obtain ⟨rfl,g1⟩:=hok1 (by assumption)
  have z1:=okR.sz (show okR n1 l1 m1 by assumption)
  have z3:=hsz _ z1
  rw [f1 (by assumption)]
  refine CallN.fn hf (hop _ _ _ _ (by (iterate 30 (try first | assumption | refine Tb.mono ?_ (by assumption)));first | done | assumption) (by assumption) z1) (fun v h3 hle3 hr=>?_)
  obtain ⟨s,t,rfl,hq⟩:=hr
  conv=>whnf
  repeat ((first | refine opsI.step ?_ | refine codeI.step ?_);conv=>whnf)
  repeat' first | ((first | (show CallN _ _ _ _ _ _;(refine CallN.fn rfl (Give_ct _ _ _ _ (by assumption) z3) (fun v h' hl hr=>?_);obtain ⟨e1,e2,rfl,hq'⟩:=hr)) | ((first | refine opsI.step ?_ | refine codeI.step ?_)) | refine LdN.own 1 rfl rfl ?_ | refine Sto.lit 1 rfl rfl rfl ?_) <;> (conv=>whnf))
  exact RetN.all ⟨_,_,rfl,(by assumption)⟩
 ·rw [f2 (by assumption)];exact RetN.all (Res.err _ _)

theorem Op1.id:Op1 F.number_Canon_1 (fun q=>q):=fun h a b q tb h1 z1=>by
 refine fn0_of_codeI ok D.number_Canon_1 rfl ?_
 conv=>whnf
 repeat ((first | refine opsI.step ?_ | refine codeI.step ?_);conv=>whnf)
 repeat' first | ((first | ((first | refine opsI.step ?_ | refine codeI.step ?_)) | intro (_:Nat) | (show LdN _ _ _ _ _;first | refine LdN.own 0 rfl rfl ?_ | refine LdN.own 1 rfl rfl ?_) | refine Sto.lit 0 rfl rfl rfl ?_) <;> (conv=>whnf))
 exact RetN.all ⟨_,_,rfl,(by assumption)⟩
theorem NCanon_ct (h:Heap) (tb:Tb h) (n1:Bool) (a1 b1:Sl) (l1 m1:List Nat) (hv1:IsVal h a1 b1 l1 m1):
  Fn0 T F.number_Canon [.agg #[.bool n1,a1.val,b1.val]] h fun v h'=>Res h' v (spec1 (fun q=>q) n1 l1 m1):=by
 refine fn0_of_codeI ok D.number_Canon rfl ?_
 conv=>whnf
 repeat ((first | refine opsI.step ?_ | refine codeI.step ?_);conv=>whnf)
 repeat' first | ((first | (show CallN _ _ _ _ _ _;(refine CallN.fn rfl (one_ct _ (by assumption) _ _ _ _ _ (by assumption) _ _ rfl Op1.id (fun q a=>a.mono (by decide))) (fun v h' hl hr=>?_);obtain ⟨e1,e2,rfl,hq'⟩:=hr)) | ((first | refine opsI.step ?_ | refine codeI.step ?_)) | intro (_:Nat) | (show LdN _ _ _ _ _;first | refine LdN.own 0 rfl rfl ?_ | refine LdN.own 1 rfl rfl ?_) | refine Sto.lit 0 rfl rfl rfl ?_) <;> (conv=>whnf))
 exact RetN.all ⟨_,_,rfl,(by assumption)⟩

def specDiv (n1:Bool) (l1 m1:List Nat) (n2:Bool) (l2 m2:List Nat):Rat × Int:=
 if okR n1 l1 m1∧okR n2 l2 m2 then (if nu (ratOf n2 l2 m2)=0 then (0,10) else outR (ratOf n1 l1 m1 / ratOf n2 l2 m2)) else (0,1)
def specGrid (up:Bool) (n:Bool) (l m:List Nat) (p:Int):Rat × Int:=
 if okR n l m then (if p<0∨256<p then (0,2) else outR (gridQ (ratOf n l m) p.toNat up)) else (0,1)
def specCmp (n1:Bool) (l1 m1:List Nat) (n2:Bool) (l2 m2:List Nat):Int × Int:=
 if okR n1 l1 m1∧okR n2 l2 m2 then (cmpQ (ratOf n1 l1 m1) (ratOf n2 l2 m2),0) else (0,1)
def specPow (n1:Bool) (l1 m1:List Nat) (n:Int):Rat × Int:=
 if okR n1 l1 m1 then (if n < -32∨32<n then (0,2) else if n<0∧nu (ratOf n1 l1 m1)=0 then (0,10) else outR (powQ (ratOf n1 l1 m1) n)) else (0,1)
theorem ln_pow {b:Nat} (hb:2≤b) (a n:Nat):ln b (a^n)≤n*ln b a+1:=by
 rw [ln_le_iff hb]
 have h1:a≤b^ln b a:=Nat.le_of_lt ((ln_le_iff hb).1 (Nat.le_refl _))
 have h2:a^n≤b^(ln b a*n):=by rw [Nat.pow_mul];exact Nat.pow_le_pow_left h1 n
 rw [Nat.mul_comm n]
 exact Nat.lt_of_le_of_lt h2 (Nat.pow_lt_pow_right (by omega) (by omega))
def bitsQ (q:Rat):Int:=mm true (bl (nu q):Nat) (bl q.den:Nat)
def specBits (n1:Bool) (l1 m1:List Nat):Int × Int:=if okR n1 l1 m1 then (bitsQ (ratOf n1 l1 m1),0) else (0,1)



end Go.Proofs.YtbgicephinomlaaGreatDoor