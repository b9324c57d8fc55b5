/- Contracts of package number's functions, second part: operations on one number, products and quotients, rounding, comparison, powers, ints. -/
import Derived.Test.YtiohcpiloenmoaaGreatDoorL3
set_option linter.all false
set_option maxHeartbeats 1000000
set_option maxRecDepth 20000
namespace Go.Proofs.Y
open Go Go.Vc Go.Dig

def mC(op:Rat->Rat)(n:Bool)(l m:List Nat):Rat × Int:=
 if okR n l m then eA (op (aK n l m)) else (0,1)
def Op1(f:FuncId)(op:Rat->Rat):Prop:=∀(h:aA) (a b:Sl) (q:Rat),Tb h->bV h a b q->Sz 64 q->
 Fn0 T f [.agg #[.bool (sg q),a.val,b.val]] h fun v h'=>∃s t:Sl,v=.agg #[.bool (sg (op q)),s.val,t.val]/\bV h' s t (op q)

theorem aGa(h:aA)(tb:Tb h)(n1:Bool)(a1 b1:Sl)(l1 m1:List Nat)(hv1:aY h a1 b1 l1 m1)
  (f:FuncId) (op:Rat->Rat) (hf:T.fn f=true) (hop:Op1 f op) (hsz:∀q,Sz 64 q->Sz 1073741824 (op q)):
  Fn0 T F.q68 [.agg #[.bool n1,a1.val,b1.val],.func (.func f) #[] #[]] h fun v h'=>Res h' v (mC op n1 l1 m1):=by
 have f1:okR n1 l1 m1->mC op n1 l1 m1=eA (op (aK n1 l1 m1)):=fun x=>if_pos x
 have f2:¬okR n1 l1 m1->mC op n1 l1 m1=(0,1):=fun x=>if_neg x
 refine f0C ok D.q68 rfl ?_;conv=>whnf
 repeat' first|((first|(show CN _ _ _ _ _ _;(refine CN.f rfl (fE _ Ab _ _ _ l1 m1 Ab) (fun v h' hle1 hr=>?_);obtain⟨s1,c1,d1,rfl,hok1⟩:=hr))|((first|apply oI.z|apply cI.z))|intro (_:Nat)|(show LdN _ _ _ _ _;first|refine LdN.o 0 rfl rfl ?_|refine LdN.o 1 rfl rfl ?_)|(show Sto _ _ _ _;first|refine Sto.l 0 rfl rfl rfl ?_|refine Sto.l 1 rfl rfl rfl ?_))<;>conv=>whnf)|(show cnd _ _ _;first|(refine aI ?_)|(apply aN<;>intro _<;>first|(exfalso;omega)|conv=>whnf))
 .obtain⟨rfl,g1⟩:=hok1 Ab;have z1:=okR.sz (show okR n1 l1 m1 by assumption)
  have z3:=hsz _ z1;rw[f1 Ab];refine CN.f hf (hop _ _ _ _ Ae Ab z1) (fun v h3 hle3 hr=>?_)
  obtain⟨s,t,rfl,hq⟩:=hr;conv=>whnf
  repeat' ((first|(show CN _ _ _ _ _ _;(refine CN.f rfl (iJ _ _ _ _ Ab z3) (fun v h' hl hr=>?_);obtain⟨e1,e2,rfl,hq'⟩:=hr))|((first|apply oI.z|apply cI.z))|refine LdN.o 1 rfl rfl ?_|refine Sto.l 1 rfl rfl rfl ?_)<;>conv=>whnf)
  exact RN.a ⟨_,_,rfl,Ab⟩
 .rw[f2 Ab];exact RN.a (Res.err _ _)

theorem Op1.id:Op1 F.q69 (fun q=>q):=fun h a b q tb h1 z1=>by
 refine f0C ok D.q69 rfl ?_;conv=>whnf
 repeat' ((first|((first|apply oI.z|apply cI.z))|intro (_:Nat)|(show LdN _ _ _ _ _;first|refine LdN.o 0 rfl rfl ?_|refine LdN.o 1 rfl rfl ?_)|refine Sto.l 0 rfl rfl rfl ?_)<;>conv=>whnf)
 exact RN.a ⟨_,_,rfl,Ab⟩
theorem tU(h:aA)(tb:Tb h)(n1:Bool)(a1 b1:Sl)(l1 m1:List Nat)(hv1:aY h a1 b1 l1 m1):
  Fn0 T F.q33 [.agg #[.bool n1,a1.val,b1.val]] h fun v h'=>Res h' v (mC (fun q=>q) n1 l1 m1):=by
 refine f0C ok D.q33 rfl ?_;conv=>whnf
 repeat' ((first|(show CN _ _ _ _ _ _;(refine CN.f rfl (aGa _ Ab _ _ _ _ _ Ab _ _ rfl Op1.id (fun q a=>a.mono Ag)) (fun v h' hl hr=>?_);obtain⟨e1,e2,rfl,hq'⟩:=hr))|((first|apply oI.z|apply cI.z))|intro (_:Nat)|(show LdN _ _ _ _ _;first|refine LdN.o 0 rfl rfl ?_|refine LdN.o 1 rfl rfl ?_)|refine Sto.l 0 rfl rfl rfl ?_)<;>conv=>whnf)
 exact RN.a ⟨_,_,rfl,Ab⟩

theorem aRn(h:aA)(tb:Tb h)(n1:Bool)(a1 b1:Sl)(l1 m1:List Nat)(n2:Bool)(a2 b2:Sl)(l2 m2:List Nat)(hv1:aY h a1 b1 l1 m1)(hv2:aY h a2 b2 l2 m2):
  Fn0 T F.q132 [.agg #[.bool n1,a1.val,b1.val],.agg #[.bool n2,a2.val,b2.val]] h fun v h'=>Res h' v (rZ (·*·) n1 l1 m1 n2 l2 m2):=by
 refine f0C ok D.q132 rfl ?_;conv=>whnf
 repeat' ((first|(show CN _ _ _ _ _ _;(refine CN.f rfl (aF6 _ Ab _ _ _ _ _ _ _ _ _ _ Ab Ab _ _ rfl Op2.mul (fun q r a b=>(Sz.mul a b).mono Ag)) (fun v h' hl hr=>?_);obtain⟨e1,e2,rfl,hq'⟩:=hr))|((first|apply oI.z|apply cI.z))|intro (_:Nat)|(show LdN _ _ _ _ _;first|refine LdN.o 0 rfl rfl ?_|refine LdN.o 1 rfl rfl ?_|refine LdN.o 2 rfl rfl ?_)|refine Sto.l 0 rfl rfl rfl ?_)<;>conv=>whnf)
 exact RN.a ⟨_,_,rfl,Ab⟩

def kN(n1:Bool)(l1 m1:List Nat)(n2:Bool)(l2 m2:List Nat):Rat × Int:=
 if okR n1 l1 m1/\okR n2 l2 m2 then (if nu (aK n2 l2 m2)=0 then (0,10) else eA (aK n1 l1 m1 / aK n2 l2 m2)) else (0,1)
theorem Sz.inv{k:Nat}{q:Rat}(s:Sz k q)(h:nu q≠0):Sz k q⁻¹:=⟨by rw[rG q h];exact s.den,by rw[den_inv q h];exact s.num⟩
theorem aRo(h:aA)(tb:Tb h)(n1:Bool)(a1 b1:Sl)(l1 m1:List Nat)(n2:Bool)(a2 b2:Sl)(l2 m2:List Nat)(hv1:aY h a1 b1 l1 m1)(hv2:aY h a2 b2 l2 m2):
  Fn0 T F.q133 [.agg #[.bool n1,a1.val,b1.val],.agg #[.bool n2,a2.val,b2.val]] h fun v h'=>Res h' v (kN n1 l1 m1 n2 l2 m2):=by
 have f1:okR n1 l1 m1->okR n2 l2 m2->nu (aK n2 l2 m2)≠0->kN n1 l1 m1 n2 l2 m2=eA (aK n1 l1 m1*(aK n2 l2 m2)⁻¹):=fun x y z=>by unfold kN;rw[if_pos ⟨x,y⟩,if_neg z,bDj]
 have f2:¬okR n1 l1 m1->kN n1 l1 m1 n2 l2 m2=(0,1):=fun x=>if_neg fun y=>x y.1
 have f3:¬okR n2 l2 m2->kN n1 l1 m1 n2 l2 m2=(0,1):=fun x=>if_neg fun y=>x y.2
 have f4:okR n1 l1 m1->okR n2 l2 m2->nu (aK n2 l2 m2)=0->kN n1 l1 m1 n2 l2 m2=(0,10):=fun x y z=>by unfold kN;rw[if_pos ⟨x,y⟩,if_pos z]
 refine f0C ok D.q133 rfl ?_;conv=>whnf
 repeat' first|((first|(show CN _ _ _ _ _ _;first|(refine CN.f rfl (fE _ Ae _ _ _ l1 m1 Ao) (fun v h' hle1 hr=>?_);obtain⟨s1,c1,d1,rfl,hok1⟩:=hr)|(refine CN.f rfl (fE _ Ae _ _ _ l2 m2 Ao) (fun v h' hle2 hr=>?_);obtain⟨s2,c2,d2,rfl,hok2⟩:=hr))|((first|apply oI.z|apply cI.z))|intro (_:Nat)|refine LdN.o 2 rfl rfl ?_|refine Ld.o 0 rfl rfl ?_|(show Sto _ _ _ _;first|refine Sto.l 0 rfl rfl rfl ?_|refine Sto.l 2 rfl rfl rfl ?_))<;>conv=>whnf)|(show cnd _ _ _;first|(refine aI ?_)|(apply aN<;>intro _<;>first|(exfalso;omega)|conv=>whnf))
 all_goals first
  | (rw[f2 Ab];exact RN.a (Res.err _ _))
  | (rw[f3 Ab];exact RN.a (Res.err _ _))
  | skip
 obtain⟨rfl,g1⟩:=hok1 Ab;obtain⟨rfl,g2⟩:=hok2 Ab;have k1:okR n1 l1 m1:=Ab;have k2:okR n2 l2 m2:=Ab;have z1:=okR.sz k1;have z2:=okR.sz k2;have y1:Sz 1073741824 (aK n1 l1 m1):=z1.mono Ag;have t2:=z2.num;have i2:=g2.num;have g4:=f4 k1 k2;have g1':=f1 k1 k2;obtain⟨q,hq⟩:=AE (aK n1 l1 m1);obtain⟨r,hr⟩:=AE (aK n2 l2 m2);rw[<-hq] at g1 z1 y1 g1';rw[<-hr] at g2 z2 t2 i2 g4 g1';rw[<-hq,<-hr];have y2:nu r≠0->Sz 1073741824 r⁻¹:=fun hz=>(Sz.inv z2 hz).mono Ag
 have y3:nu r≠0->Sz 1073741824 (q*r⁻¹):=fun hz=>(Sz.mul z1 (Sz.inv z2 hz)).mono Ag
 repeat' ((first|(show CN _ _ _ _ _ _;first|refine CN.quiet rfl (iI _ _ _ Ab Aa) ?_|(refine CN.quiet rfl (kZ _ _ _ _ Ab Ab) ?_;have g3:=bV.inv (show bV _ _ _ r from Ab) Ab)|(refine CN.f rfl (qH _ Ae _ _ _ _ q r⁻¹ Aw Ab y1 (y2 Ab)) (fun v h' hl hr=>?_);obtain⟨e1,e2,rfl,hq'⟩:=hr)|(refine CN.f rfl (iJ _ _ _ _ Ab (y3 Ab)) (fun v h' hl hr=>?_);obtain⟨e1,e2,rfl,hq''⟩:=hr))|((first|apply oI.z|apply cI.z))|refine⟨fun _=>aF.o (aA.lr _),?_⟩|refine⟨fun _=>aF.o Ab,?_⟩|refine⟨fun hst=>(by cases (show true=false from hst)),?_⟩|(show LdN _ _ _ _ _;first|refine LdN.o 0 rfl rfl ?_|refine LdN.o 1 rfl rfl ?_|refine LdN.o 2 rfl rfl ?_)|refine Sto.l 2 rfl rfl rfl ?_|refine DrN.run Al ?_|(apply aN<;>intro _<;>try (exfalso;omega)))<;>conv=>whnf)
 all_goals first
  | (rw[g4 Ab];exact RN.a (Res.err _ _))
  | (rw[g1' Ab];exact RN.a ⟨_,_,rfl,Ab⟩)

def nY(n1:Bool)(l1 m1:List Nat)(n2:Bool)(l2 m2:List Nat):Int × Int:=
 if okR n1 l1 m1/\okR n2 l2 m2 then (gK (aK n1 l1 m1) (aK n2 l2 m2),0) else (0,1)
theorem aDs(h:aA)(tb:Tb h)(n1:Bool)(a1 b1:Sl)(l1 m1:List Nat)(n2:Bool)(a2 b2:Sl)(l2 m2:List Nat)(hv1:aY h a1 b1 l1 m1)(hv2:aY h a2 b2 l2 m2):
  Fn0 T F.q134 [.agg #[.bool n1,a1.val,b1.val],.agg #[.bool n2,a2.val,b2.val]] h fun v _=>v=.tuple #[.int .i64 (nY n1 l1 m1 n2 l2 m2).1,.int .i64 (nY n1 l1 m1 n2 l2 m2).2]:=by
 have f1:okR n1 l1 m1->okR n2 l2 m2->nY n1 l1 m1 n2 l2 m2=(gK (aK n1 l1 m1) (aK n2 l2 m2),0):=fun x y=>if_pos ⟨x,y⟩
 have f2:¬okR n1 l1 m1->nY n1 l1 m1 n2 l2 m2=(0,1):=fun x=>if_neg fun y=>x y.1
 have f3:¬okR n2 l2 m2->nY n1 l1 m1 n2 l2 m2=(0,1):=fun x=>if_neg fun y=>x y.2
 refine f0C ok D.q134 rfl ?_;conv=>whnf
 repeat' first|((first|(show CN _ _ _ _ _ _;first|(refine CN.f rfl (fE _ Ae _ _ _ l1 m1 Ao) (fun v h' hle1 hr=>?_);obtain⟨s1,c1,d1,rfl,hok1⟩:=hr)|(refine CN.f rfl (fE _ Ae _ _ _ l2 m2 Ao) (fun v h' hle2 hr=>?_);obtain⟨s2,c2,d2,rfl,hok2⟩:=hr))|((first|apply oI.z|apply cI.z))|intro (_:Nat)|(show LdN _ _ _ _ _;first|refine LdN.o 0 rfl rfl ?_|refine LdN.o 1 rfl rfl ?_)|refine Sto.l 0 rfl rfl rfl ?_)<;>conv=>whnf)|(show cnd _ _ _;first|(refine aI ?_)|(apply aN<;>intro _<;>first|(exfalso;omega)|conv=>whnf))
 all_goals first
  | (rw[f2 Ab];exact RN.a rfl)
  | (rw[f3 Ab];exact RN.a rfl)
  | skip
 obtain⟨rfl,g1⟩:=hok1 Ab;obtain⟨rfl,g2⟩:=hok2 Ab;have k1:okR n1 l1 m1:=Ab;have k2:okR n2 l2 m2:=Ab;have y1:Sz 1073741824 (aK n1 l1 m1):=(okR.sz k1).mono Ag;have y2:Sz 1073741824 (aK n2 l2 m2):=(okR.sz k2).mono Ag;rw[f1 k1 k2]
 repeat' ((first|(show CN _ _ _ _ _ _;(refine CN.f rfl (aHw _ _ _ _ _ _ _ Aw Ab y1 y2) (fun v h' hl hr=>?_);obtain rfl:=hr))|((first|apply oI.z|apply cI.z)))<;>conv=>whnf)
 exact RN.a rfl

def iY(n1:Bool)(l1 m1:List Nat)(n:Int):Rat × Int:=
 if okR n1 l1 m1 then (if n < -32\/32<n then (0,2) else if n<0/\nu (aK n1 l1 m1)=0 then (0,10) else eA (lN (aK n1 l1 m1) n)) else (0,1)
theorem wZ{b:Nat}(hb:2<=b)(a n:Nat):ln b (a^n)<=n*ln b a+1:=by
 rw[aQ hb];have h1:a<=b^ln b a:=bBy ((aQ hb).1 (aZt _));have h2:a^n<=b^(ln b a*n):=by rw[bBw];exact bBx h1 n
 rw[aZf n];exact bBh h2 (Nat.pow_lt_pow_right Aa Aa)
theorem Sz.pow{q:Rat}(s:Sz 64 q){n:Nat}(hn:n<=32):Sz 4096 (q^n):=by
 have h1:=wZ tlB (nu q) n;have h2:=wZ tlB q.den n;have a1:=s.num;have a2:=s.den;have b1:n*ln 4294967296 (nu q)<=32*64:=bA1 hn a1;have b2:n*ln 4294967296 q.den<=32*64:=bA1 hn a2;refine⟨?_,?_⟩
 .rw[aMr];omega
 .rw[Rat.den_pow];omega
theorem aBt(h:aA)(a b:Sl)(q:Rat)(n:Int)(N:Nat)(hnN:n=N)(hq:bV h a b q)(hs:Sz 65536 q)(hn:N<=65536):
  Fn0 T F.q103 [.agg #[.bool (sg q),a.val,b.val],.int .i64 n] h fun v h'=>∃s t:Sl,v=.agg #[.bool (sg (q^N)),s.val,t.val]/\bV h' s t (q^N):=by
 subst hnN;exact aRi h a b q N hq hs hn
theorem aRp(h:aA)(tb:Tb h)(n1:Bool)(a1 b1:Sl)(l1 m1:List Nat)(hv1:aY h a1 b1 l1 m1)(n:Int)(hn1:-9223372036854775808<=n)(hn2:n<=9223372036854775807):
  Fn0 T F.q126 [.agg #[.bool n1,a1.val,b1.val],.int .i64 n] h fun v h'=>Res h' v (iY n1 l1 m1 n):=by
 have f2:¬okR n1 l1 m1->iY n1 l1 m1 n=(0,1):=fun x=>if_neg x
 have f3:okR n1 l1 m1->(n < -32\/32<n)->iY n1 l1 m1 n=(0,2):=fun x y=>by unfold iY;rw[if_pos x,if_pos y]
 have f4:okR n1 l1 m1->¬(n < -32\/32<n)->n<0->nu (aK n1 l1 m1)=0->iY n1 l1 m1 n=(0,10):=fun x y z w=>by unfold iY;rw[if_pos x,if_neg y,if_pos ⟨z,w⟩]
 have f5:okR n1 l1 m1->¬(n < -32\/32<n)->n<0->nu (aK n1 l1 m1)≠0->iY n1 l1 m1 n=eA ((aK n1 l1 m1)⁻¹^(-n).toNat):=fun x y z w=>by unfold iY lN;rw[if_pos x,if_neg y,if_neg (fun hh=>w hh.2),if_pos z]
 have f6:okR n1 l1 m1->¬(n < -32\/32<n)->¬n<0->iY n1 l1 m1 n=eA (aK n1 l1 m1^n.toNat):=fun x y z=>by unfold iY lN;rw[if_pos x,if_neg y,if_neg (fun hh=>z hh.1),if_neg z]
 obtain⟨P,hP⟩:∃P:Nat,P=(-n).toNat:=⟨_,rfl⟩
 obtain⟨R,hR⟩:∃R:Nat,R=n.toNat:=⟨_,rfl⟩
 rw[<-hP] at f5;rw[<-hR] at f6;refine f0C ok D.q126 rfl ?_;conv=>whnf
 repeat' first|((first|(apply aO.go)|(show CN _ _ _ _ _ _;(refine CN.f rfl (fE _ Ab _ _ _ l1 m1 Ab) (fun v h' hle1 hr=>?_);obtain⟨s1,c1,d1,rfl,hok1⟩:=hr))|((first|apply oI.z|apply cI.z))|intro (_:Nat)|(show LdN _ _ _ _ _;first|refine LdN.o 0 rfl rfl ?_|refine LdN.o 1 rfl rfl ?_)|refine Ld.o 0 rfl rfl ?_|(show Sto _ _ _ _;first|refine Sto.l 0 rfl rfl rfl ?_|refine Sto.l 1 rfl rfl rfl ?_))<;>conv=>whnf)|(show cnd _ _ _;first|(apply aB<;>intro _<;>first|(exfalso;omega)|conv=>whnf)|(refine aI ?_)|(apply aN<;>intro _<;>first|(exfalso;omega)|conv=>whnf))
 all_goals first
  | (rw[f2 Ab];exact RN.a (Res.err _ _))
  | (rw[f3 Ab Aa];exact RN.a (Res.err _ _))
  | skip
 all_goals
  obtain⟨rfl,g1⟩:=hok1 Ab;have k1:okR n1 l1 m1:=Ab;have z1:=okR.sz k1;have t2:=z1.num;have i2:=g1.num;replace f4:=f4 k1 Aa;replace f5:=f5 k1 Aa;replace f6:=f6 k1 Aa;obtain⟨q,hq⟩:=AE (aK n1 l1 m1);rw[<-hq] at g1 z1 t2 i2 f4 f5 f6;rw[<-hq];have y1:Sz 65536 q:=z1.mono Ag;have y2:nu q≠0->Sz 65536 q⁻¹:=fun hz=>(Sz.inv z1 hz).mono Ag
  have y3:nu q≠0->P<=32->Sz 1073741824 (q⁻¹^P):=fun hz hp=>(Sz.pow (Sz.inv z1 hz) hp).mono Ag
  have y4:R<=32->Sz 1073741824 (q^R):=fun hp=>(Sz.pow z1 hp).mono Ag
 all_goals (repeat' first|((first|(show CN _ _ _ _ _ _;first|refine CN.quiet rfl (iI _ _ _ Ab Aa) ?_|(refine CN.quiet rfl (kZ _ _ _ _ Ab Ab) ?_;have g3:=bV.inv (show bV _ _ _ q from Ab) Ab)|(refine CN.f rfl (aBt _ _ _ q⁻¹ _ P Aa Ab (y2 Ab) Aa) (fun v h' hl hr=>?_);obtain⟨e1,e2,rfl,hq'⟩:=hr)|(refine CN.f rfl (aBt _ _ _ q _ R Aa Ab y1 Aa) (fun v h' hl hr=>?_);obtain⟨e1,e2,rfl,hq'⟩:=hr)|(refine CN.f rfl (iJ _ _ _ _ Ab (y3 Ab Aa)) (fun v h' hl hr=>?_);obtain⟨e1,e2,rfl,hq''⟩:=hr)|(refine CN.f rfl (iJ _ _ _ _ Ab (y4 Aa)) (fun v h' hl hr=>?_);obtain⟨e1,e2,rfl,hq''⟩:=hr))|((first|apply oI.z|apply cI.z))|refine WN.i64 Aa Aa ?_|(show LdN _ _ _ _ _;first|refine LdN.o 0 rfl rfl ?_|refine LdN.o 1 rfl rfl ?_)|(show Sto _ _ _ _;first|refine Sto.l 0 rfl rfl rfl ?_|refine Sto.l 1 rfl rfl rfl ?_))<;>conv=>whnf)|(show cnd _ _ _;first|((first|apply aB|apply aN)<;>intro _<;>first|(exfalso;omega)|conv=>whnf)))
 all_goals first
  | (rw[f4 Aa Ab];exact RN.a (Res.err _ _))
  | (rw[f5 Aa Ab];exact RN.a ⟨_,_,rfl,Ab⟩)
  | (rw[f6 Aa];exact RN.a ⟨_,_,rfl,Ab⟩)

theorem pJ(n:Int)(h1:-9223372036854775808<=n)(h2:n<=9223372036854775807):fits (n:Rat):=by
 have a:=(aQ (k:=2) tlB).2 (show nu (n:Rat)<4294967296^2 by rw[aMt];omega)
 refine⟨Aa,?_⟩;rw[aHt,mJ _ tlB];decide
theorem aDt(h:aA)(n:Int)(h1:-9223372036854775808<=n)(h2:n<=9223372036854775807):
  Fn0 T F.q221 [.int .i64 n] h fun v h'=>∃a b:Sl,v=.agg #[.bool (sg (n:Rat)),a.val,b.val]/\fI h' a b (n:Rat):=by
 have hf:=pJ n h1 h2;have e:eA (n:Rat)=((n:Rat),0):=if_pos hf;have y:Sz 1073741824 (n:Rat):=⟨aZr hf.1 Ag,aZr hf.2 Ag⟩;obtain⟨q,hq⟩:=AE (n:Rat);rw[<-hq] at e y;rw[<-hq];refine f0C ok D.q221 rfl ?_;conv=>whnf
 repeat' ((first|(show CN _ _ _ _ _ _;first|(refine CN.f rfl (nX _ n h1 h2) (fun v h' hl hr=>?_);rw[<-hq] at hr;obtain⟨e1,e2,rfl,hq'⟩:=hr)|(refine CN.f rfl (iJ _ _ _ q Ab y) (fun v h' hl hr=>?_);rw[e] at hr;obtain⟨e1,e2,rfl,hq''⟩:=hr))|((first|apply oI.z|apply cI.z))|intro (_:Nat)|(show LdN _ _ _ _ _;first|refine LdN.o 0 rfl rfl ?_|refine LdN.o 1 rfl rfl ?_)|(show Sto _ _ _ _;first|refine Sto.l 0 rfl rfl rfl ?_|refine Sto.l 1 rfl rfl rfl ?_))<;>conv=>whnf)
 exact RN.a ⟨_,_,rfl,Ab⟩

theorem aRq(h:aA)(a b c d:Sl)(q r:Rat)(hq:IsQ h a b q)(hr:IsQ h c d r)(hs:Sr 65536 q)(hs':Sr 65536 r):
  Fn0 T F.q39 [.agg #[.bool (sg q),a.val,b.val],.agg #[.bool (sg r),c.val,d.val]] h fun v _=>v=.int .i64 (gK q r):=by
 have y1:Sr 1073741824 q:=hs.mono Ag;have y2:Sr 1073741824 r:=hs'.mono Ag;have y3:Sr 1099511627776 (q-r):=by rw[bB2];exact (aBs hs (Sr.neg hs')).mono Ag
 have e:=aMs q r;refine f0C ok D.q39 rfl ?_;conv=>whnf
 repeat' ((first|(show CN _ _ _ _ _ _;first|(refine CN.f rfl (aHx _ _ _ _ _ _ _ Ab Ab y1 y2) (fun v h' hl hr=>?_);obtain⟨e1,e2,rfl,hq'⟩:=hr)|refine CN.quiet rfl (aM2 _ _ _ _ Ab y3) ?_)|((first|apply oI.z|apply cI.z))|intro (_:Nat)|(show LdN _ _ _ _ _;first|refine LdN.o 0 rfl rfl ?_|refine LdN.o 1 rfl rfl ?_))<;>conv=>whnf)
 exact RN.a (by rw[e])


theorem fC{q:Rat}:bY q=0↔nu q=0:=by
 unfold bY
 split
 .simp_all
 .split<;>simp_all
theorem aM5{k l:Nat}{q r:Rat}(a:Sr k q)(b:Sr l r):Sr (k+l) (q*r):=by
 have h:=aMv q r;have p1:=dE tlb (nu q) (nu r);have p3:=dE tlb q.den r.den;have a1:=a.num;have a2:=a.den;have b1:=b.num;have b2:=b.den;exact⟨aZr (dG tlb h.1) Aa,aZr (dG tlb h.2) Aa⟩
theorem aU7{k:Nat}{q:Rat}(s:Sr k q)(h:nu q≠0):Sr k q⁻¹:=⟨by rw[rG q h];exact s.den,by rw[den_inv q h];exact s.num⟩

theorem Res.two{h:aA}{v:Value}{q:Rat}{e:Int}(r:Res h v (q,e)):∃a b:Sl,v=.tuple #[.agg #[.bool (sg q),a.val,b.val],.int .i64 e]/\fI h a b q:=r
end Go.Proofs.Y