/- Contracts of package number's functions, second part: operations on one number, products and quotients, rounding, comparison, powers, ints. -/
import Derived.Test.YtblecjeceecaaaaGreatDoorL3
set_option linter.all false
set_option maxHeartbeats 1000000
set_option maxRecDepth 20000
namespace Go.Proofs.Y
open Go Go.Vc Go.Dig

def oJ(op:Rat->Rat)(n:Bool)(l m:List Nat):Rat × Int:=
 if okR n l m then eO (op (aK n l m)) else (0,1)
def Op1(f:FuncId)(op:Rat->Rat):Prop:=∀(h:aA) (a b:Sl) (q:Rat),Tb h->eJ h a b q->Sz 64 q->
 Fn0 T f [.agg #[.bool (sg q),a.val,b.val]] h fun v h'=>∃s t:Sl,v=.agg #[.bool (sg (op q)),s.val,t.val]/\eJ h' s t (op q)

theorem aLz(h:aA)(tb:Tb h)(n1:Bool)(a1 b1:Sl)(l1 m1:List Nat)(hv1:bV h a1 b1 l1 m1)
  (f:FuncId) (op:Rat->Rat) (hf:T.fn f=true) (hop:Op1 f op) (hsz:∀q,Sz 64 q->Sz 1073741824 (op q)):
  Fn0 T F.q90 [.agg #[.bool n1,a1.val,b1.val],.func (.func f) #[] #[]] h fun v h'=>Res h' v (oJ op n1 l1 m1):=by
 have f1:okR n1 l1 m1->oJ op n1 l1 m1=eO (op (aK n1 l1 m1)):=fun x=>if_pos x
 have f2:¬okR n1 l1 m1->oJ op n1 l1 m1=(0,1):=fun x=>if_neg x
 refine f0C ok D.q90 rfl ?_;conv=>whnf
 repeat' first|((first|(show CN _ _ _ _ _ _;(refine CN.f rfl (iU _ Ab _ _ _ l1 m1 Ab) (fun v h' hle1 hr=>?_);obtain⟨s1,c1,d1,rfl,hok1⟩:=hr))|((first|apply oI.z|apply cI.z))|intro (_:Nat)|(show LdN _ _ _ _ _;first|refine LdN.o 0 rfl rfl ?_|refine LdN.o 1 rfl rfl ?_)|(show Sto _ _ _ _;first|refine Sto.l 0 rfl rfl rfl ?_|refine Sto.l 1 rfl rfl rfl ?_))<;>conv=>whnf)|(show cnd _ _ _;first|(refine aI ?_)|(apply aU<;>intro _<;>first|(exfalso;omega)|conv=>whnf))
 .obtain⟨rfl,g1⟩:=hok1 Ab;have z1:=okR.sz (show okR n1 l1 m1 by assumption)
  have z3:=hsz _ z1;rw[f1 Ab];refine CN.f hf (hop _ _ _ _ Af Ab z1) (fun v h3 hle3 hr=>?_)
  obtain⟨s,t,rfl,hq⟩:=hr;conv=>whnf
  repeat' ((first|(show CN _ _ _ _ _ _;(refine CN.f rfl (jZ _ _ _ _ Ab z3) (fun v h' hl hr=>?_);obtain⟨e1,e2,rfl,hq'⟩:=hr))|((first|apply oI.z|apply cI.z))|refine LdN.o 1 rfl rfl ?_|refine Sto.l 1 rfl rfl rfl ?_)<;>conv=>whnf)
  exact RN.a ⟨_,_,rfl,Ab⟩
 .rw[f2 Ab];exact RN.a (Res.err _ _)

theorem Op1.id:Op1 F.q91 (fun q=>q):=fun h a b q tb h1 z1=>by
 refine f0C ok D.q91 rfl ?_;conv=>whnf
 repeat' ((first|((first|apply oI.z|apply cI.z))|intro (_:Nat)|(show LdN _ _ _ _ _;first|refine LdN.o 0 rfl rfl ?_|refine LdN.o 1 rfl rfl ?_)|refine Sto.l 0 rfl rfl rfl ?_)<;>conv=>whnf)
 exact RN.a ⟨_,_,rfl,Ab⟩
theorem yJ(h:aA)(tb:Tb h)(n1:Bool)(a1 b1:Sl)(l1 m1:List Nat)(hv1:bV h a1 b1 l1 m1):
  Fn0 T F.q46 [.agg #[.bool n1,a1.val,b1.val]] h fun v h'=>Res h' v (oJ (fun q=>q) n1 l1 m1):=by
 refine f0C ok D.q46 rfl ?_;conv=>whnf
 repeat' ((first|(show CN _ _ _ _ _ _;(refine CN.f rfl (aLz _ Ab _ _ _ _ _ Ab _ _ rfl Op1.id (fun q a=>a.mono Ae)) (fun v h' hl hr=>?_);obtain⟨e1,e2,rfl,hq'⟩:=hr))|((first|apply oI.z|apply cI.z))|intro (_:Nat)|(show LdN _ _ _ _ _;first|refine LdN.o 0 rfl rfl ?_|refine LdN.o 1 rfl rfl ?_)|refine Sto.l 0 rfl rfl rfl ?_)<;>conv=>whnf)
 exact RN.a ⟨_,_,rfl,Ab⟩

def mO(n1:Bool)(l1 m1:List Nat)(n2:Bool)(l2 m2:List Nat):Rat × Int:=
 if okR n1 l1 m1/\okR n2 l2 m2 then (if nu (aK n2 l2 m2)=0 then (0,10) else eO (aK n1 l1 m1 / aK n2 l2 m2)) else (0,1)
theorem Sz.inv{k:Nat}{q:Rat}(s:Sz k q)(h:nu q≠0):Sz k q⁻¹:=⟨by rw[yI q h];exact s.den,by rw[den_inv q h];exact s.num⟩
def bE8(up:Bool)(n:Bool)(l m:List Nat)(p:Int):Rat × Int:=
 if okR n l m then (if p<0\/256<p then (0,2) else eO (aS4 (aK n l m) p.toNat up)) else (0,1)
def qX(n1:Bool)(l1 m1:List Nat)(n2:Bool)(l2 m2:List Nat):Int × Int:=
 if okR n1 l1 m1/\okR n2 l2 m2 then (eX (aK n1 l1 m1) (aK n2 l2 m2),0) else (0,1)
theorem aIr(h:aA)(tb:Tb h)(n1:Bool)(a1 b1:Sl)(l1 m1:List Nat)(n2:Bool)(a2 b2:Sl)(l2 m2:List Nat)(hv1:bV h a1 b1 l1 m1)(hv2:bV h a2 b2 l2 m2):
  Fn0 T F.q39 [.agg #[.bool n1,a1.val,b1.val],.agg #[.bool n2,a2.val,b2.val]] h fun v _=>v=.tuple #[.int .i64 (qX n1 l1 m1 n2 l2 m2).1,.int .i64 (qX n1 l1 m1 n2 l2 m2).2]:=by
 have f1:okR n1 l1 m1->okR n2 l2 m2->qX n1 l1 m1 n2 l2 m2=(eX (aK n1 l1 m1) (aK n2 l2 m2),0):=fun x y=>if_pos ⟨x,y⟩
 have f2:¬okR n1 l1 m1->qX n1 l1 m1 n2 l2 m2=(0,1):=fun x=>if_neg fun y=>x y.1
 have f3:¬okR n2 l2 m2->qX n1 l1 m1 n2 l2 m2=(0,1):=fun x=>if_neg fun y=>x y.2
 refine f0C ok D.q39 rfl ?_;conv=>whnf
 repeat' first|((first|(show CN _ _ _ _ _ _;first|(refine CN.f rfl (iU _ Af _ _ _ l1 m1 Am) (fun v h' hle1 hr=>?_);obtain⟨s1,c1,d1,rfl,hok1⟩:=hr)|(refine CN.f rfl (iU _ Af _ _ _ l2 m2 Am) (fun v h' hle2 hr=>?_);obtain⟨s2,c2,d2,rfl,hok2⟩:=hr))|((first|apply oI.z|apply cI.z))|intro (_:Nat)|(show LdN _ _ _ _ _;first|refine LdN.o 0 rfl rfl ?_|refine LdN.o 1 rfl rfl ?_)|refine Sto.l 0 rfl rfl rfl ?_)<;>conv=>whnf)|(show cnd _ _ _;first|(refine aI ?_)|(apply aU<;>intro _<;>first|(exfalso;omega)|conv=>whnf))
 all_goals first
  | (rw[f2 Ab];exact RN.a rfl)
  | (rw[f3 Ab];exact RN.a rfl)
  | skip
 obtain⟨rfl,g1⟩:=hok1 Ab;obtain⟨rfl,g2⟩:=hok2 Ab;have k1:okR n1 l1 m1:=Ab;have k2:okR n2 l2 m2:=Ab;have y1:Sz 1073741824 (aK n1 l1 m1):=(okR.sz k1).mono Ae;have y2:Sz 1073741824 (aK n2 l2 m2):=(okR.sz k2).mono Ae;rw[f1 k1 k2]
 repeat' ((first|(show CN _ _ _ _ _ _;(refine CN.f rfl (aY3 _ _ _ _ _ _ _ Ay Ab y1 y2) (fun v h' hl hr=>?_);obtain rfl:=hr))|((first|apply oI.z|apply cI.z)))<;>conv=>whnf)
 exact RN.a rfl

def kW(n1:Bool)(l1 m1:List Nat)(n:Int):Rat × Int:=
 if okR n1 l1 m1 then (if n < -32\/32<n then (0,2) else if n<0/\nu (aK n1 l1 m1)=0 then (0,10) else eO (oX (aK n1 l1 m1) n)) else (0,1)
theorem oY{b:Nat}(hb:2<=b)(a n:Nat):ln b (a^n)<=n*ln b a+1:=by
 rw[aR hb];have h1:a<=b^ln b a:=bLw ((aR hb).1 (bJf _));have h2:a^n<=b^(ln b a*n):=by rw[bLh];exact bLg h1 n
 rw[bI1 n];exact bLa h2 (Nat.pow_lt_pow_right Aa Aa)
theorem Sz.pow{q:Rat}(s:Sz 64 q){n:Nat}(hn:n<=32):Sz 4096 (q^n):=by
 have h1:=oY tlB (nu q) n;have h2:=oY tlB q.den n;have a1:=s.num;have a2:=s.den;have b1:n*ln 4294967296 (nu q)<=32*64:=bJ8 hn a1;have b2:n*ln 4294967296 q.den<=32*64:=bJ8 hn a2;refine⟨?_,?_⟩
 .rw[vC];omega
 .rw[bNh];omega
theorem aTd(h:aA)(a b:Sl)(q:Rat)(n:Int)(N:Nat)(hnN:n=N)(hq:eJ h a b q)(hs:Sz 65536 q)(hn:N<=65536):
  Fn0 T F.q189 [.agg #[.bool (sg q),a.val,b.val],.int .i64 n] h fun v h'=>∃s t:Sl,v=.agg #[.bool (sg (q^N)),s.val,t.val]/\eJ h' s t (q^N):=by
 subst hnN;exact aY4 h a b q N hq hs hn
theorem wN(n:Int)(h1:-9223372036854775808<=n)(h2:n<=9223372036854775807):fits (n:Rat):=by
 have a:=(aR (k:=2) tlB).2 (show nu (n:Rat)<4294967296^2 by rw[vD];omega)
 refine⟨Aa,?_⟩;rw[qV,jA _ tlB];decide
def bE9(q:Rat):Int:=mm true (bl (nu q):Nat) (bl q.den:Nat)
def bFa(n1:Bool)(l1 m1:List Nat):Int × Int:=if okR n1 l1 m1 then (bE9 (aK n1 l1 m1),0) else (0,1)


theorem eL{q:Rat}:dH q=0↔nu q=0:=by
 unfold dH
 split
 .simp_all
 .split<;>simp_all
theorem aL1{k l:Nat}{q r:Rat}(a:Sr k q)(b:Sr l r):Sr (k+l) (q*r):=by
 have h:=aLr q r;have p1:=cX tlb (nu q) (nu r);have p3:=cX tlb q.den r.den;have a1:=a.num;have a2:=a.den;have b1:=b.num;have b2:=b.den;exact⟨bJd (cQ tlb h.1) Aa,bJd (cQ tlb h.2) Aa⟩
theorem aL2{k:Nat}{q:Rat}(s:Sr k q)(h:nu q≠0):Sr k q⁻¹:=⟨by rw[yI q h];exact s.den,by rw[den_inv q h];exact s.num⟩

end Go.Proofs.Y