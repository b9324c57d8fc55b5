/- Contracts of package number's functions, second part: operations on one number, products and quotients, rounding, comparison, powers, ints. -/
import Derived.Test.YtieblmbjldlaeaaGreatDoorL3
set_option linter.all false
set_option maxHeartbeats 1000000
set_option maxRecDepth 20000
namespace Go.Proofs.Y
open Go Go.Vc Go.Dig

def tN (op:Rat→Rat) (n:Bool) (l m:List Nat):Rat × Int:=
 if okR n l m then iA (op (aR n l m)) else (0,1)
def Op1 (f:FuncId) (op:Rat→Rat):Prop:=∀(h:aA) (a b:Sl) (q:Rat),Tb h→iP h a b q→Sz 64 q→
 Fn0 T f [.agg #[.bool (sg q),a.val,b.val]] h fun v h'=>∃s t:Sl,v=.agg #[.bool (sg (op q)),s.val,t.val]∧iP h' s t (op q)

theorem aP6 (h:aA) (tb:Tb h) (n1:Bool) (a1 b1:Sl) (l1 m1:List Nat) (hv1:cB h a1 b1 l1 m1)
  (f:FuncId) (op:Rat→Rat) (hf:T.fn f=true) (hop:Op1 f op) (hsz:∀q,Sz 64 q→Sz 1073741824 (op q)):
  Fn0 T F.q190 [.agg #[.bool n1,a1.val,b1.val],.func (.func f) #[] #[]] h fun v h'=>Res h' v (tN op n1 l1 m1):=by
 have f1:okR n1 l1 m1→tN op n1 l1 m1=iA (op (aR n1 l1 m1)):=fun x=>if_pos x
 have f2:¬okR n1 l1 m1→tN op n1 l1 m1=(0,1):=fun x=>if_neg x
 refine f0C ok D.q190 rfl ?_
 conv=>whnf
 repeat' first|((first|(show CN _ _ _ _ _ _;(refine CN.f rfl (sI _ (by assumption) _ _ _ l1 m1 (by assumption)) (fun v h' hle1 hr=>?_);obtain ⟨s1,c1,d1,rfl,hok1⟩:=hr))|((first|apply oI.z|apply cI.z))|intro (_:Nat)|(show LdN _ _ _ _ _;first|refine LdN.o 0 rfl rfl ?_|refine LdN.o 1 rfl rfl ?_)|(show Sto _ _ _ _;first|refine Sto.l 0 rfl rfl rfl ?_|refine Sto.l 1 rfl rfl rfl ?_)) <;> (conv=>whnf))|(show cnd _ _ _;first|(refine aI ?_)|(apply bJ<;>intro _<;>first|(exfalso;omega)|conv=>whnf))
 ·obtain ⟨rfl,g1⟩:=hok1 (by assumption)
  have z1:=okR.sz (show okR n1 l1 m1 by assumption)
  have z3:=hsz _ z1
  rw [f1 (by assumption)]
  refine CN.f hf (hop _ _ _ _ (by (iterate 30 try first|assumption|refine Tb.mono ?_ (by assumption));first|done|assumption) (by assumption) z1) (fun v h3 hle3 hr=>?_)
  obtain ⟨s,t,rfl,hq⟩:=hr
  conv=>whnf
  repeat' first|((first|(show CN _ _ _ _ _ _;(refine CN.f rfl (pH _ _ _ _ (by assumption) z3) (fun v h' hl hr=>?_);obtain ⟨e1,e2,rfl,hq'⟩:=hr))|((first|apply oI.z|apply cI.z))|refine LdN.o 1 rfl rfl ?_|refine Sto.l 1 rfl rfl rfl ?_) <;> (conv=>whnf))
  exact RN.a ⟨_,_,rfl,(by assumption)⟩
 ·rw [f2 (by assumption)];exact RN.a (Res.err _ _)

theorem Op1.id:Op1 F.q191 (fun q=>q):=fun h a b q tb h1 z1=>by
 refine f0C ok D.q191 rfl ?_
 conv=>whnf
 repeat' first|((first|((first|apply oI.z|apply cI.z))|intro (_:Nat)|(show LdN _ _ _ _ _;first|refine LdN.o 0 rfl rfl ?_|refine LdN.o 1 rfl rfl ?_)|refine Sto.l 0 rfl rfl rfl ?_) <;> (conv=>whnf))
 exact RN.a ⟨_,_,rfl,(by assumption)⟩
theorem aF9 (h:aA) (tb:Tb h) (n1:Bool) (a1 b1:Sl) (l1 m1:List Nat) (hv1:cB h a1 b1 l1 m1):
  Fn0 T F.q152 [.agg #[.bool n1,a1.val,b1.val]] h fun v h'=>Res h' v (tN (fun q=>q) n1 l1 m1):=by
 refine f0C ok D.q152 rfl ?_
 conv=>whnf
 repeat' first|((first|(show CN _ _ _ _ _ _;(refine CN.f rfl (aP6 _ (by assumption) _ _ _ _ _ (by assumption) _ _ rfl Op1.id (fun q a=>a.mono (by decide))) (fun v h' hl hr=>?_);obtain ⟨e1,e2,rfl,hq'⟩:=hr))|((first|apply oI.z|apply cI.z))|intro (_:Nat)|(show LdN _ _ _ _ _;first|refine LdN.o 0 rfl rfl ?_|refine LdN.o 1 rfl rfl ?_)|refine Sto.l 0 rfl rfl rfl ?_) <;> (conv=>whnf))
 exact RN.a ⟨_,_,rfl,(by assumption)⟩

def aTl (n1:Bool) (l1 m1:List Nat) (n2:Bool) (l2 m2:List Nat):Rat × Int:=
 if okR n1 l1 m1∧okR n2 l2 m2 then (if nu (aR n2 l2 m2)=0 then (0,10) else iA (aR n1 l1 m1 / aR n2 l2 m2)) else (0,1)
def aRq (up:Bool) (n:Bool) (l m:List Nat) (p:Int):Rat × Int:=
 if okR n l m then (if p<0∨256<p then (0,2) else iA (aIg (aR n l m) p.toNat up)) else (0,1)
def aTm (n1:Bool) (l1 m1:List Nat) (n2:Bool) (l2 m2:List Nat):Int × Int:=
 if okR n1 l1 m1∧okR n2 l2 m2 then (aAs (aR n1 l1 m1) (aR n2 l2 m2),0) else (0,1)
def aTn (n1:Bool) (l1 m1:List Nat) (n:Int):Rat × Int:=
 if okR n1 l1 m1 then (if n < -32∨32<n then (0,2) else if n<0∧nu (aR n1 l1 m1)=0 then (0,10) else iA (aMv (aR n1 l1 m1) n)) else (0,1)
theorem aP7 {b:Nat} (hb:2≤b) (a n:Nat):ln b (a^n)≤n*ln b a+1:=by
 rw [aT hb]
 have h1:a≤b^ln b a:=Nat.le_of_lt ((aT hb).1 (aWf _))
 have h2:a^n≤b^(ln b a*n):=by rw [Nat.pow_mul];exact Nat.pow_le_pow_left h1 n
 rw [aV1 n]
 exact Nat.lt_of_le_of_lt h2 (Nat.pow_lt_pow_right (by omega) (by omega))
theorem aAz (n:Int) (h1:-9223372036854775808≤n) (h2:n≤9223372036854775807):cK (n:Rat):=by
 have a:=(aT (k:=2) tlB).2 (show nu (n:Rat)<4294967296^2 by rw [tL];omega)
 refine ⟨by omega,?_⟩
 rw [pG,jH _ tlB];decide
def aRr (q:Rat):Int:=mm true (bl (nu q):Nat) (bl q.den:Nat)
def aRs (n1:Bool) (l1 m1:List Nat):Int × Int:=if okR n1 l1 m1 then (aRr (aR n1 l1 m1),0) else (0,1)

theorem aM0 (h:aA) (a b c d:Sl) (q r:Rat) (hq:IsQ h a b q) (hr:IsQ h c d r) (hs:Sr 65536 q) (hs':Sr 65536 r):
  Fn0 T F.q48 [.agg #[.bool (sg q),a.val,b.val],.agg #[.bool (sg r),c.val,d.val]] h fun v _=>v=.int .i64 (aAs q r):=by
 have y1:Sr 1073741824 q:=hs.mono (by decide)
 have y2:Sr 1073741824 r:=hs'.mono (by decide)
 have y3:Sr 1099511627776 (q-r):=by rw [Rat.sub_eq_add_neg];exact (aP5 hs (Sr.neg hs')).mono (by decide)
 have e:=aIh q r
 refine f0C ok D.q48 rfl ?_
 conv=>whnf
 repeat' first|((first|(show CN _ _ _ _ _ _;first|(refine CN.f rfl (aMz _ _ _ _ _ _ _ (by assumption) (by assumption) y1 y2) (fun v h' hl hr=>?_);obtain ⟨e1,e2,rfl,hq'⟩:=hr)|refine CN.quiet rfl (aEf _ _ _ _ (by assumption) y3) ?_)|((first|apply oI.z|apply cI.z))|intro (_:Nat)|(show LdN _ _ _ _ _;first|refine LdN.o 0 rfl rfl ?_|refine LdN.o 1 rfl rfl ?_)) <;> (conv=>whnf))
 exact RN.a (by rw [e])


theorem gG {q:Rat}:fI q=0↔nu q=0:=by
 unfold fI
 split
 ·simp_all
 ·split <;> simp_all
theorem aM1 (h:aA) (n:Int) (N:Nat) (hn:n=N) (hN:N<18446744073709551616):Fn0 T F.q59 [.int .u64 n] h fun v h'=>∃s':Sl,v=s'.val∧aS h' s' N:=by
 subst hn;exact fQ h N hN
theorem aM2 (h:aA) (n:Int) (h1:-9223372036854775808≤n) (h2:n<0):
  Fn0 T F.q72 [.int .i64 n] h fun v h'=>∃s t:Sl,v=.agg #[.bool (sg (n:Rat)),s.val,t.val]∧IsQ h' s t (n:Rat):=by
 obtain ⟨m,hm⟩:∃m,m=n.natAbs:=⟨_,rfl⟩
 have e:(n:Rat)=mkQ true m 1:=by
  have:=tH (n:Rat)
  rw [xY,tL,pG,decide_eq_true h2,← hm] at this
  exact this.symm
 have hnm:n=-(m:Int):=by omega
 have p1:ln 65536 m≤4:=(aT tlb).2 (by omega)
 have p2:=jH 65536 tlb
 rw [e]
 clear e
 refine f0C ok D.q72 rfl ?_
 conv=>whnf
 repeat' first|((first|(show WN _ _ _;first|refine WN.u64v (m-1) (by omega) ?_|refine WN.i64 (by omega) (by omega) ?_|refine WN.u64 (by omega) (by omega) ?_)|((first|apply oI.z|apply cI.z))|intro (_:Nat)) <;> (conv=>whnf))|(apply aB<;>intro _<;>first|(exfalso;omega)|conv=>whnf)
 refine CN.f rfl (aM1 _ _ m (by omega) (by omega)) (fun v h' hl hr=>?_)
 obtain ⟨s',rfl,hs'⟩:=hr
 conv=>whnf
 repeat ((first|apply oI.z|apply cI.z);conv=>whnf)
 refine CN.f rfl (fQ _ 1 (by omega)) (fun v h' hl hr=>?_)
 obtain ⟨t',rfl,ht'⟩:=hr
 conv=>whnf
 repeat' first|((first|(show CN _ _ _ _ _ _;(refine CN.f rfl (lS _ _ _ _ m 1 (by (iterate 30 try first|assumption|refine aS.mono ?_ (by assumption));first|done|assumption) (by assumption) (by omega) (by omega)) (fun v h' hl hr=>?_);obtain ⟨a',b',rfl,hq'⟩:=hr))|((first|apply oI.z|apply cI.z))|refine LdN.o 0 rfl rfl ?_|refine Sto.l 0 rfl rfl rfl ?_) <;> (conv=>whnf))
 exact RN.a ⟨_,_,rfl,(by assumption)⟩
theorem pJ (h:aA) (n:Int) (h1:-9223372036854775808≤n) (h2:n≤9223372036854775807):
  Fn0 T F.q72 [.int .i64 n] h fun v h'=>∃s t:Sl,v=.agg #[.bool (sg (n:Rat)),s.val,t.val]∧IsQ h' s t (n:Rat):=by
 by_cases hn:n<0
 ·exact aM2 h n h1 hn
 ·exact aP4 h n (by omega) h2

end Go.Proofs.Y