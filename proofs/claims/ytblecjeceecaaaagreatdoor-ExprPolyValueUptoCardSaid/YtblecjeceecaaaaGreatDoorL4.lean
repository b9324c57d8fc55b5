/- Contracts of package number's functions, second part: operations on one number, products and quotients, rounding, comparison, powers, ints. -/
import Derived.Test.YtblecjeceecaaaaGreatDoorL3
set_option linter.all false
set_option maxHeartbeats 1000000
set_option maxRecDepth 20000
namespace Go.Proofs.Y
open Go Go.Vc Go.Dig

def oJ(op:Rat->Rat)(n:Bool)(l m:List Nat):Rat × Int:=
 if okR n l m then eO (op (aK n l m)) else (0,1)
def Op1(f:FuncId)(op:Rat->Rat):Prop:=∀(h:aA) (a b:Sl) (q:Rat),Tb h->eJ h a b q->Sz 64 q->
 Fn0 T f [.agg #[.bool (sg q),a.val,b.val]] h fun v h'=>∃s t:Sl,v=.agg #[.bool (sg (op q)),s.val,t.val]/\eJ h' s t (op q)

theorem aLz(h:aA)(tb:Tb h)(n1:Bool)(a1 b1:Sl)(l1 m1:List Nat)(hv1:bV h a1 b1 l1 m1)
  (f:FuncId) (op:Rat->Rat) (hf:T.fn f=true) (hop:Op1 f op) (hsz:∀q,Sz 64 q->Sz 1073741824 (op q)):
  Fn0 T F.q90 [.agg #[.bool n1,a1.val,b1.val],.func (.func f) #[] #[]] h fun v h'=>Res h' v (oJ op n1 l1 m1):=by
 have f1:okR n1 l1 m1->oJ op n1 l1 m1=eO (op (aK n1 l1 m1)):=fun x=>if_pos x
 have f2:¬okR n1 l1 m1->oJ op n1 l1 m1=(0,1):=fun x=>if_neg x
 refine f0C ok D.q90 rfl ?_;conv=>whnf
 repeat' first|((first|(show CN _ _ _ _ _ _;(refine CN.f rfl (iU _ Ab _ _ _ l1 m1 Ab) (fun v h' hle1 hr=>?_);obtain⟨s1,c1,d1,rfl,hok1⟩:=hr))|((first|apply oI.z|apply cI.z))|intro (_:Nat)|(show LdN _ _ _ _ _;first|refine LdN.o 0 rfl rfl ?_|refine LdN.o 1 rfl rfl ?_)|(show Sto _ _ _ _;first|refine Sto.l 0 rfl rfl rfl ?_|refine Sto.l 1 rfl rfl rfl ?_))<;>conv=>whnf)|(show cnd _ _ _;first|(refine aI ?_)|(apply aU<;>intro _<;>first|(exfalso;omega)|conv=>whnf))
 .obtain⟨rfl,g1⟩:=hok1 Ab;have z1:=okR.sz (show okR n1 l1 m1 by assumption)
  have z3:=hsz _ z1;rw[f1 Ab];refine CN.f hf (hop _ _ _ _ Af Ab z1) (fun v h3 hle3 hr=>?_)
  obtain⟨s,t,rfl,hq⟩:=hr;conv=>whnf
  repeat' ((first|(show CN _ _ _ _ _ _;(refine CN.f rfl (jZ _ _ _ _ Ab z3) (fun v h' hl hr=>?_);obtain⟨e1,e2,rfl,hq'⟩:=hr))|((first|apply oI.z|apply cI.z))|refine LdN.o 1 rfl rfl ?_|refine Sto.l 1 rfl rfl rfl ?_)<;>conv=>whnf)
  exact RN.a ⟨_,_,rfl,Ab⟩
 .rw[f2 Ab];exact RN.a (Res.err _ _)

theorem Op1.id:Op1 F.q91 (fun q=>q):=fun h a b q tb h1 z1=>by
 refine f0C ok D.q91 rfl ?_;conv=>whnf
 repeat' ((first|((first|apply oI.z|apply cI.z))|intro (_:Nat)|(show LdN _ _ _ _ _;first|refine LdN.o 0 rfl rfl ?_|refine LdN.o 1 rfl rfl ?_)|refine Sto.l 0 rfl rfl rfl ?_)<;>conv=>whnf)
 exact RN.a ⟨_,_,rfl,Ab⟩
theorem yJ(h:aA)(tb:Tb h)(n1:Bool)(a1 b1:Sl)(l1 m1:List Nat)(hv1:bV h a1 b1 l1 m1):
  Fn0 T F.q46 [.agg #[.bool n1,a1.val,b1.val]] h fun v h'=>Res h' v (oJ (fun q=>q) n1 l1 m1):=by
 refine f0C ok D.q46 rfl ?_;conv=>whnf
 repeat' ((first|(show CN _ _ _ _ _ _;(refine CN.f rfl (aLz _ Ab _ _ _ _ _ Ab _ _ rfl Op1.id (fun q a=>a.mono Ae)) (fun v h' hl hr=>?_);obtain⟨e1,e2,rfl,hq'⟩:=hr))|((first|apply oI.z|apply cI.z))|intro (_:Nat)|(show LdN _ _ _ _ _;first|refine LdN.o 0 rfl rfl ?_|refine LdN.o 1 rfl rfl ?_)|refine Sto.l 0 rfl rfl rfl ?_)<;>conv=>whnf)
 exact RN.a ⟨_,_,rfl,Ab⟩

theorem aY9(h:aA)(tb:Tb h)(n1:Bool)(a1 b1:Sl)(l1 m1:List Nat)(n2:Bool)(a2 b2:Sl)(l2 m2:List Nat)(hv1:bV h a1 b1 l1 m1)(hv2:bV h a2 b2 l2 m2):
  Fn0 T F.q170 [.agg #[.bool n1,a1.val,b1.val],.agg #[.bool n2,a2.val,b2.val]] h fun v h'=>Res h' v (wM (·*·) n1 l1 m1 n2 l2 m2):=by
 refine f0C ok D.q170 rfl ?_;conv=>whnf
 repeat' ((first|(show CN _ _ _ _ _ _;(refine CN.f rfl (aLt _ Ab _ _ _ _ _ _ _ _ _ _ Ab Ab _ _ rfl Op2.mul (fun q r a b=>(Sz.mul a b).mono Ae)) (fun v h' hl hr=>?_);obtain⟨e1,e2,rfl,hq'⟩:=hr))|((first|apply oI.z|apply cI.z))|intro (_:Nat)|(show LdN _ _ _ _ _;first|refine LdN.o 0 rfl rfl ?_|refine LdN.o 1 rfl rfl ?_|refine LdN.o 2 rfl rfl ?_)|refine Sto.l 0 rfl rfl rfl ?_)<;>conv=>whnf)
 exact RN.a ⟨_,_,rfl,Ab⟩

def mO(n1:Bool)(l1 m1:List Nat)(n2:Bool)(l2 m2:List Nat):Rat × Int:=
 if okR n1 l1 m1/\okR n2 l2 m2 then (if nu (aK n2 l2 m2)=0 then (0,10) else eO (aK n1 l1 m1 / aK n2 l2 m2)) else (0,1)
theorem Sz.inv{k:Nat}{q:Rat}(s:Sz k q)(h:nu q≠0):Sz k q⁻¹:=⟨by rw[yI q h];exact s.den,by rw[den_inv q h];exact s.num⟩
theorem aZa(h:aA)(tb:Tb h)(n1:Bool)(a1 b1:Sl)(l1 m1:List Nat)(n2:Bool)(a2 b2:Sl)(l2 m2:List Nat)(hv1:bV h a1 b1 l1 m1)(hv2:bV h a2 b2 l2 m2):
  Fn0 T F.q171 [.agg #[.bool n1,a1.val,b1.val],.agg #[.bool n2,a2.val,b2.val]] h fun v h'=>Res h' v (mO n1 l1 m1 n2 l2 m2):=by
 have f1:okR n1 l1 m1->okR n2 l2 m2->nu (aK n2 l2 m2)≠0->mO n1 l1 m1 n2 l2 m2=eO (aK n1 l1 m1*(aK n2 l2 m2)⁻¹):=fun x y z=>by unfold mO;rw[if_pos ⟨x,y⟩,if_neg z,bMb]
 have f2:¬okR n1 l1 m1->mO n1 l1 m1 n2 l2 m2=(0,1):=fun x=>if_neg fun y=>x y.1
 have f3:¬okR n2 l2 m2->mO n1 l1 m1 n2 l2 m2=(0,1):=fun x=>if_neg fun y=>x y.2
 have f4:okR n1 l1 m1->okR n2 l2 m2->nu (aK n2 l2 m2)=0->mO n1 l1 m1 n2 l2 m2=(0,10):=fun x y z=>by unfold mO;rw[if_pos ⟨x,y⟩,if_pos z]
 refine f0C ok D.q171 rfl ?_;conv=>whnf
 repeat' first|((first|(show CN _ _ _ _ _ _;first|(refine CN.f rfl (iU _ Af _ _ _ l1 m1 Am) (fun v h' hle1 hr=>?_);obtain⟨s1,c1,d1,rfl,hok1⟩:=hr)|(refine CN.f rfl (iU _ Af _ _ _ l2 m2 Am) (fun v h' hle2 hr=>?_);obtain⟨s2,c2,d2,rfl,hok2⟩:=hr))|((first|apply oI.z|apply cI.z))|intro (_:Nat)|refine LdN.o 2 rfl rfl ?_|refine Ld.o 0 rfl rfl ?_|(show Sto _ _ _ _;first|refine Sto.l 0 rfl rfl rfl ?_|refine Sto.l 2 rfl rfl rfl ?_))<;>conv=>whnf)|(show cnd _ _ _;first|(refine aI ?_)|(apply aU<;>intro _<;>first|(exfalso;omega)|conv=>whnf))
 all_goals first
  | (rw[f2 Ab];exact RN.a (Res.err _ _))
  | (rw[f3 Ab];exact RN.a (Res.err _ _))
  | skip
 obtain⟨rfl,g1⟩:=hok1 Ab;obtain⟨rfl,g2⟩:=hok2 Ab;have k1:okR n1 l1 m1:=Ab;have k2:okR n2 l2 m2:=Ab;have z1:=okR.sz k1;have z2:=okR.sz k2;have y1:Sz 1073741824 (aK n1 l1 m1):=z1.mono Ae;have t2:=z2.num;have i2:=g2.num;have g4:=f4 k1 k2;have g1':=f1 k1 k2;obtain⟨q,hq⟩:=AH (aK n1 l1 m1);obtain⟨r,hr⟩:=AH (aK n2 l2 m2);rw[<-hq] at g1 z1 y1 g1';rw[<-hr] at g2 z2 t2 i2 g4 g1';rw[<-hq,<-hr];have y2:nu r≠0->Sz 1073741824 r⁻¹:=fun hz=>(Sz.inv z2 hz).mono Ae
 have y3:nu r≠0->Sz 1073741824 (q*r⁻¹):=fun hz=>(Sz.mul z1 (Sz.inv z2 hz)).mono Ae
 repeat' ((first|(show CN _ _ _ _ _ _;first|refine CN.quiet rfl (jX _ _ _ Ab Aa) ?_|(refine CN.quiet rfl (vE _ _ _ _ Ab Ab) ?_;have g3:=eJ.inv (show eJ _ _ _ r from Ab) Ab)|(refine CN.f rfl (aAd _ Af _ _ _ _ q r⁻¹ Ay Ab y1 (y2 Ab)) (fun v h' hl hr=>?_);obtain⟨e1,e2,rfl,hq'⟩:=hr)|(refine CN.f rfl (jZ _ _ _ _ Ab (y3 Ab)) (fun v h' hl hr=>?_);obtain⟨e1,e2,rfl,hq''⟩:=hr))|((first|apply oI.z|apply cI.z))|refine⟨fun _=>aJ.o (aA.lr _),?_⟩|refine⟨fun _=>aJ.o Ab,?_⟩|refine⟨fun hst=>(by cases (show true=false from hst)),?_⟩|(show LdN _ _ _ _ _;first|refine LdN.o 0 rfl rfl ?_|refine LdN.o 1 rfl rfl ?_|refine LdN.o 2 rfl rfl ?_)|refine Sto.l 2 rfl rfl rfl ?_|refine DrN.run Ak ?_|(apply aU<;>intro _<;>try (exfalso;omega)))<;>conv=>whnf)
 all_goals first
  | (rw[g4 Ab];exact RN.a (Res.err _ _))
  | (rw[g1' Ab];exact RN.a ⟨_,_,rfl,Ab⟩)

def bE8(up:Bool)(n:Bool)(l m:List Nat)(p:Int):Rat × Int:=
 if okR n l m then (if p<0\/256<p then (0,2) else eO (aS4 (aK n l m) p.toNat up)) else (0,1)
def qX(n1:Bool)(l1 m1:List Nat)(n2:Bool)(l2 m2:List Nat):Int × Int:=
 if okR n1 l1 m1/\okR n2 l2 m2 then (eX (aK n1 l1 m1) (aK n2 l2 m2),0) else (0,1)
theorem aIr(h:aA)(tb:Tb h)(n1:Bool)(a1 b1:Sl)(l1 m1:List Nat)(n2:Bool)(a2 b2:Sl)(l2 m2:List Nat)(hv1:bV h a1 b1 l1 m1)(hv2:bV h a2 b2 l2 m2):
  Fn0 T F.q39 [.agg #[.bool n1,a1.val,b1.val],.agg #[.bool n2,a2.val,b2.val]] h fun v _=>v=.tuple #[.int .i64 (qX n1 l1 m1 n2 l2 m2).1,.int .i64 (qX n1 l1 m1 n2 l2 m2).2]:=by
 have f1:okR n1 l1 m1->okR n2 l2 m2->qX n1 l1 m1 n2 l2 m2=(eX (aK n1 l1 m1) (aK n2 l2 m2),0):=fun x y=>if_pos ⟨x,y⟩
 have f2:¬okR n1 l1 m1->qX n1 l1 m1 n2 l2 m2=(0,1):=fun x=>if_neg fun y=>x y.1
 have f3:¬okR n2 l2 m2->qX n1 l1 m1 n2 l2 m2=(0,1):=fun x=>if_neg fun y=>x y.2
 refine f0C ok D.q39 rfl ?_;conv=>whnf
 repeat' first|((first|(show CN _ _ _ _ _ _;first|(refine CN.f rfl (iU _ Af _ _ _ l1 m1 Am) (fun v h' hle1 hr=>?_);obtain⟨s1,c1,d1,rfl,hok1⟩:=hr)|(refine CN.f rfl (iU _ Af _ _ _ l2 m2 Am) (fun v h' hle2 hr=>?_);obtain⟨s2,c2,d2,rfl,hok2⟩:=hr))|((first|apply oI.z|apply cI.z))|intro (_:Nat)|(show LdN _ _ _ _ _;first|refine LdN.o 0 rfl rfl ?_|refine LdN.o 1 rfl rfl ?_)|refine Sto.l 0 rfl rfl rfl ?_)<;>conv=>whnf)|(show cnd _ _ _;first|(refine aI ?_)|(apply aU<;>intro _<;>first|(exfalso;omega)|conv=>whnf))
 all_goals first
  | (rw[f2 Ab];exact RN.a rfl)
  | (rw[f3 Ab];exact RN.a rfl)
  | skip
 obtain⟨rfl,g1⟩:=hok1 Ab;obtain⟨rfl,g2⟩:=hok2 Ab;have k1:okR n1 l1 m1:=Ab;have k2:okR n2 l2 m2:=Ab;have y1:Sz 1073741824 (aK n1 l1 m1):=(okR.sz k1).mono Ae;have y2:Sz 1073741824 (aK n2 l2 m2):=(okR.sz k2).mono Ae;rw[f1 k1 k2]
 repeat' ((first|(show CN _ _ _ _ _ _;(refine CN.f rfl (aY3 _ _ _ _ _ _ _ Ay Ab y1 y2) (fun v h' hl hr=>?_);obtain rfl:=hr))|((first|apply oI.z|apply cI.z)))<;>conv=>whnf)
 exact RN.a rfl

def kW(n1:Bool)(l1 m1:List Nat)(n:Int):Rat × Int:=
 if okR n1 l1 m1 then (if n < -32\/32<n then (0,2) else if n<0/\nu (aK n1 l1 m1)=0 then (0,10) else eO (oX (aK n1 l1 m1) n)) else (0,1)
theorem oY{b:Nat}(hb:2<=b)(a n:Nat):ln b (a^n)<=n*ln b a+1:=by
 rw[aR hb];have h1:a<=b^ln b a:=bLw ((aR hb).1 (bJf _));have h2:a^n<=b^(ln b a*n):=by rw[bLh];exact bLg h1 n
 rw[bI1 n];exact bLa h2 (Nat.pow_lt_pow_right Aa Aa)
theorem Sz.pow{q:Rat}(s:Sz 64 q){n:Nat}(hn:n<=32):Sz 4096 (q^n):=by
 have h1:=oY tlB (nu q) n;have h2:=oY tlB q.den n;have a1:=s.num;have a2:=s.den;have b1:n*ln 4294967296 (nu q)<=32*64:=bJ8 hn a1;have b2:n*ln 4294967296 q.den<=32*64:=bJ8 hn a2;refine⟨?_,?_⟩
 .rw[vC];omega
 .rw[bNh];omega
theorem aTd(h:aA)(a b:Sl)(q:Rat)(n:Int)(N:Nat)(hnN:n=N)(hq:eJ h a b q)(hs:Sz 65536 q)(hn:N<=65536):
  Fn0 T F.q189 [.agg #[.bool (sg q),a.val,b.val],.int .i64 n] h fun v h'=>∃s t:Sl,v=.agg #[.bool (sg (q^N)),s.val,t.val]/\eJ h' s t (q^N):=by
 subst hnN;exact aY4 h a b q N hq hs hn
theorem aZb(h:aA)(tb:Tb h)(n1:Bool)(a1 b1:Sl)(l1 m1:List Nat)(hv1:bV h a1 b1 l1 m1)(n:Int)(hn1:-9223372036854775808<=n)(hn2:n<=9223372036854775807):
  Fn0 T F.q164 [.agg #[.bool n1,a1.val,b1.val],.int .i64 n] h fun v h'=>Res h' v (kW n1 l1 m1 n):=by
 have f2:¬okR n1 l1 m1->kW n1 l1 m1 n=(0,1):=fun x=>if_neg x
 have f3:okR n1 l1 m1->(n < -32\/32<n)->kW n1 l1 m1 n=(0,2):=fun x y=>by unfold kW;rw[if_pos x,if_pos y]
 have f4:okR n1 l1 m1->¬(n < -32\/32<n)->n<0->nu (aK n1 l1 m1)=0->kW n1 l1 m1 n=(0,10):=fun x y z w=>by unfold kW;rw[if_pos x,if_neg y,if_pos ⟨z,w⟩]
 have f5:okR n1 l1 m1->¬(n < -32\/32<n)->n<0->nu (aK n1 l1 m1)≠0->kW n1 l1 m1 n=eO ((aK n1 l1 m1)⁻¹^(-n).toNat):=fun x y z w=>by unfold kW oX;rw[if_pos x,if_neg y,if_neg (fun hh=>w hh.2),if_pos z]
 have f6:okR n1 l1 m1->¬(n < -32\/32<n)->¬n<0->kW n1 l1 m1 n=eO (aK n1 l1 m1^n.toNat):=fun x y z=>by unfold kW oX;rw[if_pos x,if_neg y,if_neg (fun hh=>z hh.1),if_neg z]
 obtain⟨P,hP⟩:∃P:Nat,P=(-n).toNat:=⟨_,rfl⟩
 obtain⟨R,hR⟩:∃R:Nat,R=n.toNat:=⟨_,rfl⟩
 rw[<-hP] at f5;rw[<-hR] at f6;refine f0C ok D.q164 rfl ?_;conv=>whnf
 repeat' first|((first|(apply bJ.go)|(show CN _ _ _ _ _ _;(refine CN.f rfl (iU _ Ab _ _ _ l1 m1 Ab) (fun v h' hle1 hr=>?_);obtain⟨s1,c1,d1,rfl,hok1⟩:=hr))|((first|apply oI.z|apply cI.z))|intro (_:Nat)|(show LdN _ _ _ _ _;first|refine LdN.o 0 rfl rfl ?_|refine LdN.o 1 rfl rfl ?_)|refine Ld.o 0 rfl rfl ?_|(show Sto _ _ _ _;first|refine Sto.l 0 rfl rfl rfl ?_|refine Sto.l 1 rfl rfl rfl ?_))<;>conv=>whnf)|(show cnd _ _ _;first|(apply aB<;>intro _<;>first|(exfalso;omega)|conv=>whnf)|(refine aI ?_)|(apply aU<;>intro _<;>first|(exfalso;omega)|conv=>whnf))
 all_goals first
  | (rw[f2 Ab];exact RN.a (Res.err _ _))
  | (rw[f3 Ab Aa];exact RN.a (Res.err _ _))
  | skip
 all_goals
  obtain⟨rfl,g1⟩:=hok1 Ab;have k1:okR n1 l1 m1:=Ab;have z1:=okR.sz k1;have t2:=z1.num;have i2:=g1.num;replace f4:=f4 k1 Aa;replace f5:=f5 k1 Aa;replace f6:=f6 k1 Aa;obtain⟨q,hq⟩:=AH (aK n1 l1 m1);rw[<-hq] at g1 z1 t2 i2 f4 f5 f6;rw[<-hq];have y1:Sz 65536 q:=z1.mono Ae;have y2:nu q≠0->Sz 65536 q⁻¹:=fun hz=>(Sz.inv z1 hz).mono Ae
  have y3:nu q≠0->P<=32->Sz 1073741824 (q⁻¹^P):=fun hz hp=>(Sz.pow (Sz.inv z1 hz) hp).mono Ae
  have y4:R<=32->Sz 1073741824 (q^R):=fun hp=>(Sz.pow z1 hp).mono Ae
 all_goals (repeat' first|((first|(show CN _ _ _ _ _ _;first|refine CN.quiet rfl (jX _ _ _ Ab Aa) ?_|(refine CN.quiet rfl (vE _ _ _ _ Ab Ab) ?_;have g3:=eJ.inv (show eJ _ _ _ q from Ab) Ab)|(refine CN.f rfl (aTd _ _ _ q⁻¹ _ P Aa Ab (y2 Ab) Aa) (fun v h' hl hr=>?_);obtain⟨e1,e2,rfl,hq'⟩:=hr)|(refine CN.f rfl (aTd _ _ _ q _ R Aa Ab y1 Aa) (fun v h' hl hr=>?_);obtain⟨e1,e2,rfl,hq'⟩:=hr)|(refine CN.f rfl (jZ _ _ _ _ Ab (y3 Ab Aa)) (fun v h' hl hr=>?_);obtain⟨e1,e2,rfl,hq''⟩:=hr)|(refine CN.f rfl (jZ _ _ _ _ Ab (y4 Aa)) (fun v h' hl hr=>?_);obtain⟨e1,e2,rfl,hq''⟩:=hr))|((first|apply oI.z|apply cI.z))|refine WN.i64 Aa Aa ?_|(show LdN _ _ _ _ _;first|refine LdN.o 0 rfl rfl ?_|refine LdN.o 1 rfl rfl ?_)|(show Sto _ _ _ _;first|refine Sto.l 0 rfl rfl rfl ?_|refine Sto.l 1 rfl rfl rfl ?_))<;>conv=>whnf)|(show cnd _ _ _;first|((first|apply aB|apply aU)<;>intro _<;>first|(exfalso;omega)|conv=>whnf)))
 all_goals first
  | (rw[f4 Aa Ab];exact RN.a (Res.err _ _))
  | (rw[f5 Aa Ab];exact RN.a ⟨_,_,rfl,Ab⟩)
  | (rw[f6 Aa];exact RN.a ⟨_,_,rfl,Ab⟩)

theorem wN(n:Int)(h1:-9223372036854775808<=n)(h2:n<=9223372036854775807):fits (n:Rat):=by
 have a:=(aR (k:=2) tlB).2 (show nu (n:Rat)<4294967296^2 by rw[vD];omega)
 refine⟨Aa,?_⟩;rw[qV,jA _ tlB];decide
theorem aIs(h:aA)(n:Int)(h1:-9223372036854775808<=n)(h2:n<=9223372036854775807):
  Fn0 T F.q293 [.int .i64 n] h fun v h'=>∃a b:Sl,v=.agg #[.bool (sg (n:Rat)),a.val,b.val]/\eA h' a b (n:Rat):=by
 have hf:=wN n h1 h2;have e:eO (n:Rat)=((n:Rat),0):=if_pos hf;have y:Sz 1073741824 (n:Rat):=⟨bJd hf.1 Ae,bJd hf.2 Ae⟩;obtain⟨q,hq⟩:=AH (n:Rat);rw[<-hq] at e y;rw[<-hq];refine f0C ok D.q293 rfl ?_;conv=>whnf
 repeat' ((first|(show CN _ _ _ _ _ _;first|(refine CN.f rfl (wL _ n h1 h2) (fun v h' hl hr=>?_);rw[<-hq] at hr;obtain⟨e1,e2,rfl,hq'⟩:=hr)|(refine CN.f rfl (jZ _ _ _ q Ab y) (fun v h' hl hr=>?_);rw[e] at hr;obtain⟨e1,e2,rfl,hq''⟩:=hr))|((first|apply oI.z|apply cI.z))|intro (_:Nat)|(show LdN _ _ _ _ _;first|refine LdN.o 0 rfl rfl ?_|refine LdN.o 1 rfl rfl ?_)|(show Sto _ _ _ _;first|refine Sto.l 0 rfl rfl rfl ?_|refine Sto.l 1 rfl rfl rfl ?_))<;>conv=>whnf)
 exact RN.a ⟨_,_,rfl,Ab⟩

def bE9(q:Rat):Int:=mm true (bl (nu q):Nat) (bl q.den:Nat)
def bFa(n1:Bool)(l1 m1:List Nat):Int × Int:=if okR n1 l1 m1 then (bE9 (aK n1 l1 m1),0) else (0,1)

theorem aL0(p:Nat):ln 65536 (2^p)<=p+1:=by
 rw[aR Ae];refine bJr (Nat.pow_lt_pow_right Ae (Nat.lt_succ_self p)) (bLg Ae _)
theorem aTe(h:aA)(a:Sl)(m:Nat)(n:Int)(P:Nat)(hn:n=P)(ha:aP h a m)(la:ln 65536 m<=17179869184)(hp:P<=549755813888):
  Fn0 T F.q181 [a.val,.int .i64 n] h fun v h'=>∃s:Sl,v=s.val/\aP h' s (m*2^P):=by
 subst hn;exact aD4 h a m P ha la hp
theorem aBn(h:aA)(a:Sl)(A:Nat)(n:Int)(P:Nat)(hn:n=P)(ha:aP h a A)(hb:P*ln 65536 A<=8589934590)(la:ln 65536 A<=8589934592)(hp:P<=65536):
  Fn0 T F.q105 [a.val,.int .i64 n] h fun v h'=>∃s:Sl,v=s.val/\aP h' s (A^P):=by
 subst hn;exact aQe h a A P ha hb la hp

theorem qY(h:aA)(a b c d:Sl)(q r:Rat)(hq:IsQ h a b q)(hr:IsQ h c d r)(hs:Sr 65536 q)(hs':Sr 65536 r):
  Fn0 T F.q20 [.agg #[.bool (sg q),a.val,b.val],.agg #[.bool (sg r),c.val,d.val]] h fun v _=>v=.int .i64 (eX q r):=by
 have y1:Sr 1073741824 q:=hs.mono Ae;have y2:Sr 1073741824 r:=hs'.mono Ae;have y3:Sr 1099511627776 (q-r):=by rw[bMd];exact (aGb hs (Sr.neg hs')).mono Ae
 have e:=aS5 q r;refine f0C ok D.q20 rfl ?_;conv=>whnf
 repeat' ((first|(show CN _ _ _ _ _ _;first|(refine CN.f rfl (aN9 _ _ _ _ _ _ _ Ab Ab y1 y2) (fun v h' hl hr=>?_);obtain⟨e1,e2,rfl,hq'⟩:=hr)|refine CN.quiet rfl (aBl _ _ _ _ Ab y3) ?_)|((first|apply oI.z|apply cI.z))|intro (_:Nat)|(show LdN _ _ _ _ _;first|refine LdN.o 0 rfl rfl ?_|refine LdN.o 1 rfl rfl ?_))<;>conv=>whnf)
 exact RN.a (by rw[e])


theorem eL{q:Rat}:dH q=0↔nu q=0:=by
 unfold dH
 split
 .simp_all
 .split<;>simp_all
theorem aL1{k l:Nat}{q r:Rat}(a:Sr k q)(b:Sr l r):Sr (k+l) (q*r):=by
 have h:=aLr q r;have p1:=cX tlb (nu q) (nu r);have p3:=cX tlb q.den r.den;have a1:=a.num;have a2:=a.den;have b1:=b.num;have b2:=b.den;exact⟨bJd (cQ tlb h.1) Aa,bJd (cQ tlb h.2) Aa⟩
theorem aL2{k:Nat}{q:Rat}(s:Sr k q)(h:nu q≠0):Sr k q⁻¹:=⟨by rw[yI q h];exact s.den,by rw[den_inv q h];exact s.num⟩
theorem aL3{q:Rat}(s:Sr 128 q){n:Nat}(hn:n<=32):Sr 8192 (q^n):=by
 have h1:=oY tlb (nu q) n;have h2:=oY tlb q.den n;have b1:n*ln 65536 (nu q)<=32*128:=bJ8 hn s.num;have b2:n*ln 65536 q.den<=32*128:=bJ8 hn s.den;have p:=jA 65536 tlb;refine⟨?_,?_⟩
 .rw[vC];omega
 .rw[bNh];omega

theorem wO(h:aA)(a b:Sl)(q:Rat)(P:Nat)(n:Int)(hn:n=P)(hP:P<=64)(hq:IsQ h a b q)(hs:Sr 128 q):
  Fn0 T F.q54 [.agg #[.bool (sg q),a.val,b.val],.int .i64 n] h fun v h'=>∃s t:Sl,v=.agg #[.bool (sg (q^P)),s.val,t.val]/\IsQ h' s t (q^P):=by
 have i1:=hq.num;have i2:=hq.den;have l1:=hs.num;have l2:=hs.den;have d0:=q.den_nz;have e1:=aLn q P;have e2:=vC q P;have e3:=bNh q P;have b1:P*ln 65536 (nu q)<=8589934590:=bJd (bJ8 hP l1) Ae;have b2:P*ln 65536 q.den<=8589934590:=bJd (bJ8 hP l2) Ae;refine f0C ok D.q54 rfl ?_;conv=>whnf
 repeat' first|((first|(show gZ _ _ _;refine gZ.nn Aa Aa ?_)|(show CN _ _ _ _ _ _;first|(refine CN.quiet rfl (aIo _ _ _ _ _ Ag AA Aa) ?_)|(refine CN.f rfl (aBn _ _ (nu q) n P hn Ai b1 Aa Aa) (fun v h' hl hr=>?_);rw[<-e2] at hr;obtain⟨s',rfl,hs'⟩:=hr)|(refine CN.f rfl (aBn _ _ q.den n P hn Ai b2 Aa Aa) (fun v h' hl hr=>?_);rw[<-e3] at hr;obtain⟨t',rfl,ht'⟩:=hr))|((first|apply oI.z|apply cI.z))|refine⟨fun _=>aJ.o (aA.lr _),?_⟩|refine⟨fun _=>aJ.o Ab,?_⟩|refine⟨fun hst=>(by cases (show true=false from hst)),?_⟩|intro (_:Nat)|(show LdN _ _ _ _ _;first|refine LdN.o 0 rfl rfl ?_|refine LdN.o 1 rfl rfl ?_)|refine Ld.o 1 rfl rfl ?_|refine Sto.l 0 rfl rfl rfl ?_|refine DrN.run Ak ?_)<;>conv=>whnf)|(show cnd _ _ _;first|(apply aB<;>intro _<;>first|(exfalso;omega)|conv=>whnf)|(refine bO (fun _=>?_) (fun _=>?_)<;>(conv=>whnf)))
 .have he:eq (n%2) 1=decide (P%2=1):=by unfold eq;rw[Bool.eq_iff_iff,decide_eq_true_iff,decide_eq_true_iff];omega
  exact RN.a ⟨s',t',by rw[e1,he];simp_all,⟨Ai,Ab⟩⟩
 .exact RN.a ⟨s',t',by rw[e1];simp_all,⟨Ai,Ab⟩⟩
theorem aQj(q:Rat):((1:Int):Rat) / q=q⁻¹:=by rw[bMb,show ((1:Int):Rat)=1 from rfl,bKb]
theorem aTf(h:aA)(a b:Sl)(q:Rat)(n:Int)(h1:-32<=n)(h2:n<=32)(h0:n<0->nu q≠0)(hq:IsQ h a b q)(hs:Sr 128 q):
  Fn0 T F.q54 [.agg #[.bool (sg q),a.val,b.val],.int .i64 n] h fun v h'=>∃s t:Sl,v=.agg #[.bool (sg (oX q n)),s.val,t.val]/\IsQ h' s t (oX q n):=by
 by_cases hn:n<0
 .obtain⟨P,hP⟩:∃P:Nat,P=(-n).toNat:=⟨_,rfl⟩
  have e:oX q n=q⁻¹^P:=by unfold oX;rw[if_pos hn,hP]
  have hz:=h0 hn;have y1:Sr 1073741824 ((1:Int):Rat):=by
   refine⟨?_,?_⟩
   .rw[vD];exact bJd ((aR tlb (k:=1)).2 Ae) Ae
   .rw[qV,jA _ tlb];decide
  have y2:Sr 1073741824 q:=hs.mono Ae;have y3:=aL2 hs hz;have d:=aQj q;rw[e];obtain⟨i,hi⟩:=AH (q⁻¹);rw[<-hi] at d y3;rw[<-hi];refine f0C ok D.q54 rfl ?_;conv=>whnf
  repeat' ((first|(show CN _ _ _ _ _ _;first|(refine CN.f rfl (aGa _ 1 Ae Ae) (fun v h' hl hr=>?_);obtain⟨e1,e2,rfl,hq'⟩:=hr)|(refine CN.f rfl (aLx _ _ _ _ _ ((1:Int):Rat) q Ab Ao y1 y2) (fun v h' hl hr=>?_);rw[d] at hr;obtain⟨e1,e2,rfl,hq'⟩:=hr)|(refine CN.f rfl (wO _ _ _ i P _ Aa Aa Ab y3) (fun v h' hl hr=>?_);obtain⟨e1,e2,rfl,hq'⟩:=hr))|((first|apply oI.z|apply cI.z))|refine⟨fun _=>aJ.o Ab,?_⟩|refine⟨fun hst=>(by cases (show true=false from hst)),?_⟩|intro (_:Nat)|refine WN.i64 Aa Aa ?_|(show LdN _ _ _ _ _;first|refine LdN.o 0 rfl rfl ?_|refine LdN.o 1 rfl rfl ?_)|refine Sto.l 0 rfl rfl rfl ?_|refine DrN.run Ak ?_|(apply aB<;>intro _<;>try (exfalso;omega)))<;>conv=>whnf)
  exact RN.a ⟨_,_,rfl,Ab⟩
 .have e:oX q n=q^n.toNat:=by unfold oX;rw[if_neg hn]
  rw[e];exact wO h a b q n.toNat n Aa Aa hq hs
theorem aZc{q:Rat}(s:Sr 128 q){n:Int}(h1:-32<=n)(h2:n<=32)(h0:n<0->nu q≠0):Sr 4294967296 (oX q n):=by
 unfold oX
 split
 .rename_i hn;exact (aL3 (aL2 s (h0 hn)) Aa).mono Ae
 .exact (aL3 s Aa).mono Ae

theorem aZd(h:aA)(n:Int)(N:Nat)(hn:n=N)(hN:N<18446744073709551616):Fn0 T F.q59 [.int .u64 n] h fun v h'=>∃s':Sl,v=s'.val/\aP h' s' N:=by
 subst hn;exact gV h N hN
theorem aZe(h:aA)(n:Int)(h1:-9223372036854775808<=n)(h2:n<0):
  Fn0 T F.q51 [.int .i64 n] h fun v h'=>∃s t:Sl,v=.agg #[.bool (sg (n:Rat)),s.val,t.val]/\IsQ h' s t (n:Rat):=by
 obtain⟨m,hm⟩:=AH n.natAbs;have e:(n:Rat)=mkQ true m 1:=by
  have:=nF (n:Rat);rw[aF0,vD,qV,decide_eq_true h2,<-hm] at this;exact this.symm
 have hnm:n=-(m:Int):=Aa;have p1:ln 65536 m<=4:=(aR tlb).2 Aa;have p2:=jA 65536 tlb;rw[e];clear e;refine f0C ok D.q51 rfl ?_;conv=>whnf
 repeat' ((first|(show WN _ _ _;first|refine WN.u64v (m-1) Aa ?_|refine WN.i64 Aa Aa ?_|refine WN.u64 Aa Aa ?_)|((first|apply oI.z|apply cI.z))|intro (_:Nat)|(apply aB<;>intro _<;>try (exfalso;omega)))<;>conv=>whnf)
 refine CN.f rfl (aZd _ _ m Aa Aa) (fun v h' hl hr=>?_)
 obtain⟨s',rfl,hs'⟩:=hr;conv=>whnf
 repeat ((first|apply oI.z|apply cI.z);conv=>whnf)
 refine CN.f rfl (gV _ 1 Aa) (fun v h' hl hr=>?_)
 obtain⟨t',rfl,ht'⟩:=hr;conv=>whnf
 repeat' ((first|(show CN _ _ _ _ _ _;(refine CN.f rfl (oH _ _ _ _ m 1 Ai Ab Aa Aa) (fun v h' hl hr=>?_);obtain⟨a',b',rfl,hq'⟩:=hr))|((first|apply oI.z|apply cI.z))|refine LdN.o 0 rfl rfl ?_|refine Sto.l 0 rfl rfl rfl ?_)<;>conv=>whnf)
 exact RN.a ⟨_,_,rfl,Ab⟩
theorem qZ(h:aA)(n:Int)(h1:-9223372036854775808<=n)(h2:n<=9223372036854775807):
  Fn0 T F.q51 [.int .i64 n] h fun v h'=>∃s t:Sl,v=.agg #[.bool (sg (n:Rat)),s.val,t.val]/\IsQ h' s t (n:Rat):=by
 by_cases hn:n<0
 .exact aZe h n h1 hn
 .exact aGa h n Aa h2

theorem Res.two{h:aA}{v:Value}{q:Rat}{e:Int}(r:Res h v (q,e)):∃a b:Sl,v=.tuple #[.agg #[.bool (sg q),a.val,b.val],.int .i64 e]/\eA h a b q:=r
end Go.Proofs.Y