/- Contracts of package number's functions, second part: operations on one number, products and quotients, rounding, comparison, powers, ints. -/
import Derived.Test.YtdccpmlhflpeaaaGreatDoorL3
set_option linter.all false
set_option maxHeartbeats 1000000
set_option maxRecDepth 20000
namespace Go.Proofs.Y
open Go Go.Vc Go.Dig

def qD(op:Rat->Rat)(n:Bool)(l m:List Nat):Rat × Int:=
 if okR n l m then fH (op (aN n l m)) else (0,1)
def Op1(f:FuncId)(op:Rat->Rat):Prop:=∀(h:aA) (a b:Sl) (q:Rat),Tb h->cS h a b q->Sz 64 q->
 Fn0 T f [.agg #[.bool (sg q),a.val,b.val]] h fun v h'=>∃s t:Sl,v=.agg #[.bool (sg (op q)),s.val,t.val]/\cS h' s t (op q)

theorem aQc(h:aA)(tb:Tb h)(n1:Bool)(a1 b1:Sl)(l1 m1:List Nat)(hv1:bJ h a1 b1 l1 m1)
  (f:FuncId) (op:Rat->Rat) (hf:T.fn f=true) (hop:Op1 f op) (hsz:∀q,Sz 64 q->Sz 1073741824 (op q)):
  Fn0 T F.q60 [.agg #[.bool n1,a1.val,b1.val],.func (.func f) #[] #[]] h fun v h'=>Res h' v (qD op n1 l1 m1):=by
 have f1:okR n1 l1 m1->qD op n1 l1 m1=fH (op (aN n1 l1 m1)):=fun x=>if_pos x
 have f2:¬okR n1 l1 m1->qD op n1 l1 m1=(0,1):=fun x=>if_neg x
 refine f0C ok D.q60 rfl ?_;conv=>whnf
 repeat' first|((first|(show CN _ _ _ _ _ _;(refine CN.f rfl (lO _ Ab _ _ _ l1 m1 Ab) (fun v h' hle1 hr=>?_);obtain⟨s1,c1,d1,rfl,hok1⟩:=hr))|((first|apply oI.z|apply cI.z))|intro (_:Nat)|(show LdN _ _ _ _ _;first|refine LdN.o 0 rfl rfl ?_|refine LdN.o 1 rfl rfl ?_)|(show Sto _ _ _ _;first|refine Sto.l 0 rfl rfl rfl ?_|refine Sto.l 1 rfl rfl rfl ?_))<;>conv=>whnf)|(show cnd _ _ _;first|(refine aJ ?_)|(apply aW<;>intro _<;>first|(exfalso;omega)|conv=>whnf))
 .obtain⟨rfl,g1⟩:=hok1 Ab;have z1:=okR.sz (show okR n1 l1 m1 by assumption)
  have z3:=hsz _ z1;rw[f1 Ab];refine CN.f hf (hop _ _ _ _ Ae Ab z1) (fun v h3 hle3 hr=>?_)
  obtain⟨s,t,rfl,hq⟩:=hr;conv=>whnf
  repeat' ((first|(show CN _ _ _ _ _ _;(refine CN.f rfl (lN _ _ _ _ Ab z3) (fun v h' hl hr=>?_);obtain⟨e1,e2,rfl,hq'⟩:=hr))|((first|apply oI.z|apply cI.z))|refine LdN.o 1 rfl rfl ?_|refine Sto.l 1 rfl rfl rfl ?_)<;>conv=>whnf)
  exact RN.a ⟨_,_,rfl,Ab⟩
 .rw[f2 Ab];exact RN.a (Res.err _ _)

theorem Op1.id:Op1 F.q61 (fun q=>q):=fun h a b q tb h1 z1=>by
 refine f0C ok D.q61 rfl ?_;conv=>whnf
 repeat' ((first|((first|apply oI.z|apply cI.z))|intro (_:Nat)|(show LdN _ _ _ _ _;first|refine LdN.o 0 rfl rfl ?_|refine LdN.o 1 rfl rfl ?_)|refine Sto.l 0 rfl rfl rfl ?_)<;>conv=>whnf)
 exact RN.a ⟨_,_,rfl,Ab⟩
theorem vX(h:aA)(tb:Tb h)(n1:Bool)(a1 b1:Sl)(l1 m1:List Nat)(hv1:bJ h a1 b1 l1 m1):
  Fn0 T F.q28 [.agg #[.bool n1,a1.val,b1.val]] h fun v h'=>Res h' v (qD (fun q=>q) n1 l1 m1):=by
 refine f0C ok D.q28 rfl ?_;conv=>whnf
 repeat' ((first|(show CN _ _ _ _ _ _;(refine CN.f rfl (aQc _ Ab _ _ _ _ _ Ab _ _ rfl Op1.id (fun q a=>a.mono Ad)) (fun v h' hl hr=>?_);obtain⟨e1,e2,rfl,hq'⟩:=hr))|((first|apply oI.z|apply cI.z))|intro (_:Nat)|(show LdN _ _ _ _ _;first|refine LdN.o 0 rfl rfl ?_|refine LdN.o 1 rfl rfl ?_)|refine Sto.l 0 rfl rfl rfl ?_)<;>conv=>whnf)
 exact RN.a ⟨_,_,rfl,Ab⟩

theorem aU7(h:aA)(tb:Tb h)(n1:Bool)(a1 b1:Sl)(l1 m1:List Nat)(n2:Bool)(a2 b2:Sl)(l2 m2:List Nat)(hv1:bJ h a1 b1 l1 m1)(hv2:bJ h a2 b2 l2 m2):
  Fn0 T F.q116 [.agg #[.bool n1,a1.val,b1.val],.agg #[.bool n2,a2.val,b2.val]] h fun v h'=>Res h' v (uE (·*·) n1 l1 m1 n2 l2 m2):=by
 refine f0C ok D.q116 rfl ?_;conv=>whnf
 repeat' ((first|(show CN _ _ _ _ _ _;(refine CN.f rfl (aIp _ Ab _ _ _ _ _ _ _ _ _ _ Ab Ab _ _ rfl Op2.mul (fun q r a b=>(Sz.mul a b).mono Ad)) (fun v h' hl hr=>?_);obtain⟨e1,e2,rfl,hq'⟩:=hr))|((first|apply oI.z|apply cI.z))|intro (_:Nat)|(show LdN _ _ _ _ _;first|refine LdN.o 0 rfl rfl ?_|refine LdN.o 1 rfl rfl ?_|refine LdN.o 2 rfl rfl ?_)|refine Sto.l 0 rfl rfl rfl ?_)<;>conv=>whnf)
 exact RN.a ⟨_,_,rfl,Ab⟩

theorem Sz.inv{k:Nat}{q:Rat}(s:Sz k q)(h:nu q≠0):Sz k q⁻¹:=⟨by rw[vW q h];exact s.den,by rw[den_inv q h];exact s.num⟩
def jG(n1:Bool)(l1 m1:List Nat)(n:Int):Rat × Int:=
 if okR n1 l1 m1 then (if n < -32\/32<n then (0,2) else if n<0/\nu (aN n1 l1 m1)=0 then (0,10) else fH (kR (aN n1 l1 m1) n)) else (0,1)
theorem aIv{b:Nat}(hb:2<=b)(a n:Nat):ln b (a^n)<=n*ln b a+1:=by
 rw[aL hb];have h1:a<=b^ln b a:=bGi ((aL hb).1 (bDx _));have h2:a^n<=b^(ln b a*n):=by rw[bFz];exact bGf h1 n
 rw[bDj n];exact bFk h2 (Nat.pow_lt_pow_right Aa Aa)
theorem Sz.pow{q:Rat}(s:Sz 64 q){n:Nat}(hn:n<=32):Sz 4096 (q^n):=by
 have h1:=aIv tlB (nu q) n;have h2:=aIv tlB q.den n;have a1:=s.num;have a2:=s.den;have b1:n*ln 4294967296 (nu q)<=32*64:=bFf hn a1;have b2:n*ln 4294967296 q.den<=32*64:=bFf hn a2;refine⟨?_,?_⟩
 .rw[aP1];omega
 .rw[Rat.den_pow];omega
theorem aDu(h:aA)(a b:Sl)(q:Rat)(n:Int)(N:Nat)(hnN:n=N)(hq:cS h a b q)(hs:Sz 65536 q)(hn:N<=65536):
  Fn0 T F.q158 [.agg #[.bool (sg q),a.val,b.val],.int .i64 n] h fun v h'=>∃s t:Sl,v=.agg #[.bool (sg (q^N)),s.val,t.val]/\cS h' s t (q^N):=by
 subst hnN;exact aUz h a b q N hq hs hn
theorem aU8(h:aA)(tb:Tb h)(n1:Bool)(a1 b1:Sl)(l1 m1:List Nat)(hv1:bJ h a1 b1 l1 m1)(n:Int)(hn1:-9223372036854775808<=n)(hn2:n<=9223372036854775807):
  Fn0 T F.q110 [.agg #[.bool n1,a1.val,b1.val],.int .i64 n] h fun v h'=>Res h' v (jG n1 l1 m1 n):=by
 have f2:¬okR n1 l1 m1->jG n1 l1 m1 n=(0,1):=fun x=>if_neg x
 have f3:okR n1 l1 m1->(n < -32\/32<n)->jG n1 l1 m1 n=(0,2):=fun x y=>by unfold jG;rw[if_pos x,if_pos y]
 have f4:okR n1 l1 m1->¬(n < -32\/32<n)->n<0->nu (aN n1 l1 m1)=0->jG n1 l1 m1 n=(0,10):=fun x y z w=>by unfold jG;rw[if_pos x,if_neg y,if_pos ⟨z,w⟩]
 have f5:okR n1 l1 m1->¬(n < -32\/32<n)->n<0->nu (aN n1 l1 m1)≠0->jG n1 l1 m1 n=fH ((aN n1 l1 m1)⁻¹^(-n).toNat):=fun x y z w=>by unfold jG kR;rw[if_pos x,if_neg y,if_neg (fun hh=>w hh.2),if_pos z]
 have f6:okR n1 l1 m1->¬(n < -32\/32<n)->¬n<0->jG n1 l1 m1 n=fH (aN n1 l1 m1^n.toNat):=fun x y z=>by unfold jG kR;rw[if_pos x,if_neg y,if_neg (fun hh=>z hh.1),if_neg z]
 obtain⟨P,hP⟩:∃P:Nat,P=(-n).toNat:=⟨_,rfl⟩
 obtain⟨R,hR⟩:∃R:Nat,R=n.toNat:=⟨_,rfl⟩
 rw[<-hP] at f5;rw[<-hR] at f6;refine f0C ok D.q110 rfl ?_;conv=>whnf
 repeat' first|((first|(apply aQ.go)|(show CN _ _ _ _ _ _;(refine CN.f rfl (lO _ Ab _ _ _ l1 m1 Ab) (fun v h' hle1 hr=>?_);obtain⟨s1,c1,d1,rfl,hok1⟩:=hr))|((first|apply oI.z|apply cI.z))|intro (_:Nat)|(show LdN _ _ _ _ _;first|refine LdN.o 0 rfl rfl ?_|refine LdN.o 1 rfl rfl ?_)|refine Ld.o 0 rfl rfl ?_|(show Sto _ _ _ _;first|refine Sto.l 0 rfl rfl rfl ?_|refine Sto.l 1 rfl rfl rfl ?_))<;>conv=>whnf)|(show cnd _ _ _;first|(apply aB<;>intro _<;>first|(exfalso;omega)|conv=>whnf)|(refine aJ ?_)|(apply aW<;>intro _<;>first|(exfalso;omega)|conv=>whnf))
 all_goals first
  | (rw[f2 Ab];exact RN.a (Res.err _ _))
  | (rw[f3 Ab Aa];exact RN.a (Res.err _ _))
  | skip
 all_goals
  obtain⟨rfl,g1⟩:=hok1 Ab;have k1:okR n1 l1 m1:=Ab;have z1:=okR.sz k1;have t2:=z1.num;have i2:=g1.num;replace f4:=f4 k1 Aa;replace f5:=f5 k1 Aa;replace f6:=f6 k1 Aa;obtain⟨q,hq⟩:=AB (aN n1 l1 m1);rw[<-hq] at g1 z1 t2 i2 f4 f5 f6;rw[<-hq];have y1:Sz 65536 q:=z1.mono Ad;have y2:nu q≠0->Sz 65536 q⁻¹:=fun hz=>(Sz.inv z1 hz).mono Ad
  have y3:nu q≠0->P<=32->Sz 1073741824 (q⁻¹^P):=fun hz hp=>(Sz.pow (Sz.inv z1 hz) hp).mono Ad
  have y4:R<=32->Sz 1073741824 (q^R):=fun hp=>(Sz.pow z1 hp).mono Ad
 all_goals (repeat' first|((first|(show CN _ _ _ _ _ _;first|refine CN.quiet rfl (jE _ _ _ Ab Aa) ?_|(refine CN.quiet rfl (zB _ _ _ _ Ab Ab) ?_;have g3:=cS.inv (show cS _ _ _ q from Ab) Ab)|(refine CN.f rfl (aDu _ _ _ q⁻¹ _ P Aa Ab (y2 Ab) Aa) (fun v h' hl hr=>?_);obtain⟨e1,e2,rfl,hq'⟩:=hr)|(refine CN.f rfl (aDu _ _ _ q _ R Aa Ab y1 Aa) (fun v h' hl hr=>?_);obtain⟨e1,e2,rfl,hq'⟩:=hr)|(refine CN.f rfl (lN _ _ _ _ Ab (y3 Ab Aa)) (fun v h' hl hr=>?_);obtain⟨e1,e2,rfl,hq''⟩:=hr)|(refine CN.f rfl (lN _ _ _ _ Ab (y4 Aa)) (fun v h' hl hr=>?_);obtain⟨e1,e2,rfl,hq''⟩:=hr))|((first|apply oI.z|apply cI.z))|refine WN.i64 Aa Aa ?_|(show LdN _ _ _ _ _;first|refine LdN.o 0 rfl rfl ?_|refine LdN.o 1 rfl rfl ?_)|(show Sto _ _ _ _;first|refine Sto.l 0 rfl rfl rfl ?_|refine Sto.l 1 rfl rfl rfl ?_))<;>conv=>whnf)|(show cnd _ _ _;first|((first|apply aB|apply aW)<;>intro _<;>first|(exfalso;omega)|conv=>whnf)))
 all_goals first
  | (rw[f4 Aa Ab];exact RN.a (Res.err _ _))
  | (rw[f5 Aa Ab];exact RN.a ⟨_,_,rfl,Ab⟩)
  | (rw[f6 Aa];exact RN.a ⟨_,_,rfl,Ab⟩)

theorem qX(n:Int)(h1:-9223372036854775808<=n)(h2:n<=9223372036854775807):fits (n:Rat):=by
 have a:=(aL (k:=2) tlB).2 (show nu (n:Rat)<4294967296^2 by rw[zA];omega)
 refine⟨Aa,?_⟩;rw[uA,jW _ tlB];decide
theorem jZ{q:Rat}:dS q=0↔nu q=0:=by
 unfold dS
 split
 .simp_all
 .split<;>simp_all
theorem vY{k l:Nat}{q r:Rat}(a:Sr k q)(b:Sr l r):Sr (k+l) (q*r):=by
 have h:=aP4 q r;have p1:=cP tlb (nu q) (nu r);have p3:=cP tlb q.den r.den;have a1:=a.num;have a2:=a.den;have b1:=b.num;have b2:=b.den;exact⟨bDv (dH tlb h.1) Aa,bDv (dH tlb h.2) Aa⟩
theorem aYr{k:Nat}{q:Rat}(s:Sr k q)(h:nu q≠0):Sr k q⁻¹:=⟨by rw[vW q h];exact s.den,by rw[den_inv q h];exact s.num⟩

theorem Res.two{h:aA}{v:Value}{q:Rat}{e:Int}(r:Res h v (q,e)):∃a b:Sl,v=.tuple #[.agg #[.bool (sg q),a.val,b.val],.int .i64 e]/\fP h a b q:=r
end Go.Proofs.Y