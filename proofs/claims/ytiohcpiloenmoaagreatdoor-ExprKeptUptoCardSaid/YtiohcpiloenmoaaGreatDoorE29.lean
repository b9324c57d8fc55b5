/- expr.Print. -/
import Derived.Test.YtiohcpiloenmoaaGreatDoorE26
set_option linter.all false
set_option maxHeartbeats 1000000
set_option maxRecDepth 20000
namespace Go.Proofs.Y
open Go Go.Vc Go.Dig
theorem uQ{x:List Nat × Int}(low:Int)(h:∀y∈x.1,y<256):∀y∈bG x low,y<256:=fun y hy=>by
 unfold bG at hy
 split at hy
 .exact h y hy
 .rcases aZb.1 hy with hy|hy
  .rcases aZb.1 hy with hy|hy
   .simp only[aZl,bAy,or_false] at hy;omega
   .exact h y hy
  .simp only[aZl,bAy,or_false] at hy;omega
theorem rL:∀(b:Bool) (xs:List (List Nat × Int)),(∀x∈xs,∀y∈x.1,y<256)->∀y∈cF b xs,y<256
 | true,[],_,y,hy=>by simp[cF] at hy
 | false,[],_,y,hy=>by simp[cF] at hy
 | true,x::r,h,y,hy=>by
  rw[cF] at hy;rcases aZb.1 hy with hy|hy
  .exact h x aZa y hy
  .exact rL false r (fun z hz=>h z (aZd _ hz)) y hy
 | false,x::r,h,y,hy=>by
  rw[cF] at hy;rcases aZb.1 hy with hy|hy
  .rcases aZb.1 hy with hy|hy
   .simp only[aZl,bAy,or_false] at hy;omega
   .exact h x aZa y hy
  .exact rL false r (fun z hz=>h z (aZd _ hz)) y hy
theorem aAg{xs:List (List Nat × Int)}(h:∀x∈xs,∀y∈x.1,y<256)(i:Nat):∀y∈(xs.getD i ([],0)).1,y<256:=fun y hy=>by
 by_cases hi:i<xs.length
 .rw[aY3,aY4 hi] at hy;exact h _ (bBb hi) y hy
 .rw[aY3,aZ1 Aa] at hy;simp at hy
theorem aGl(op arg:Int)(q:Rat)(name:List Nat)(xs:List (List Nat × Int))(hn:∀y∈name,y<256)(h:∀x∈xs,∀y∈x.1,y<256):∀y∈uP op arg q name xs,y<256:=by
 have p0:=fun low=>uQ low (aAg h 0)
 have p1:=fun low=>uQ low (aAg h 1)
 have sg:∀y∈lH op,y<256:=by
  unfold lH
  (repeat' split)<;>intro y hy<;>simp only[aZl,bAy,or_false] at hy<;>omega
 have hh:=xI op arg;have hj:=rL true xs h;have app:∀{a b:List Nat},(∀y∈a,y<256)->(∀y∈b,y<256)->∀y∈a++b,y<256:=fun {a b} x z y hy=>(aZb.1 hy).elim (x y) (z y)
 unfold uP
 split
 .exact aAc q
 split
 .exact hn
 split
 .decide
 split
 .exact app Ag (p0 3)
 split
 .exact app (app (p0 1) sg) (p1 2)
 split
 .exact app (app (p0 2) sg) (p1 3)
 split
 .exact app (p0 5) (app Ag (xF arg))
 .exact app (app hh hj) Ag
theorem aOd{op:Int}(arg:Int)(q:Rat){name:List Nat}(xs:List (List Nat × Int))(hn:op=2->name≠[]):uP op arg q name xs≠[]:=by
 unfold uP
 split
 .exact aIa q
 split
 .rename_i h;exact hn h
 repeat' split
 all_goals simp
 all_goals (unfold lH;(repeat' split)<;>simp)
theorem aOe{t:Tr}{d:Nat}(h:okT d t):aM t≠[]:=by
 obtain⟨op,arg,neg,l,m,name,ks⟩:=t;rw[okT] at h;rw[aM];refine aOd _ _ _ fun e=>?_
 have:=h.2.1.2.2.2.1;rw[if_pos e] at this;exact this.2.2.1
mutual
theorem xJ:∀(t:Tr) (d:Nat) (h:aA) (vs:List Value),okT d t->IsE h vs t->∀y∈aM t,y<256
 | .mk op arg neg l m name ks,d,h,vs,ho,w=>by
  obtain⟨a,b,s,rfl,-,-,hv,hb,hk⟩:=w.isK;rw[okT] at ho;have hx:∀x∈aU ks,∀y∈x.1,y<256:=by
   rcases hk.mem with e|⟨bl,off,c,T,fz,-,-,h3⟩
   .subst e;rw[aU];simp
   .exact uR ks (d+1) h c off ho.2.2 h3
  rw[aM];exact aGl _ _ _ _ _ hb hx
theorem uR:∀(ks:List Tr) (d:Nat) (h:aA) (c:Array Value) (off:Nat),bZ d ks->fL h c off ks->∀x∈aU ks,∀y∈x.1,y<256
 | [],_,_,_,_,_,_=>by rw[aU];simp
 | t::ks,d,h,c,off,ho,w=>by
  rw[bZ] at ho;rw[fL] at w;obtain⟨⟨vs,-,-,hE⟩,w2⟩:=w;rw[aU];intro x hx;rcases aZl.1 hx with rfl|hx
  .exact xJ t d h vs ho.1 hE
  .exact uR ks d h c _ ho.2 w2 x hx
end
attribute [local irreducible] Vc.Fn
theorem aB5(t:Tr)(d:Nat)(hok:okT d t)(hsz:szT t<=300)(h:aA)(vs:List Value)(tb:Tb h)(pw:Pw h)(w:IsE h vs t):Fn0 T F.q32 [.agg vs.toArray] h fun v h'=>v=.string (txt (aM t)):=by
 have hlen:=aAf t d hok;have hbyte:=xJ t d h vs hok w;have hne:=aOe hok;have hwr:=aOc t d hok;obtain⟨⟨op,arg,neg,l,m,name,ks⟩,ht⟩:=AE t;obtain⟨a,b,s,hvs,-⟩:=(ht.symm▸w:IsE h vs (.mk op arg neg l m name ks)).isK;subst hvs;refine f0C ok D.q32 rfl ?_;conv=>whnf
 repeat' ((first|((first|apply oI.z|apply cI.z))|intro (_:Nat)|refine LdN.o 1 rfl rfl ?_)<;>conv=>whnf)
 rename_i be bb;refine CN.par2 (A:=[]) (Lp:=[_]) (B:=[_]) rfl (Fn.pan (hwr _ _ bb [] _ tb pw w ⟨_,_,[],rfl,.inl rfl,aE.nil _ _ _⟩ (by simp only[aY9];omega))) (fun v h1 Lp hl1 hr=>?_) (fun _ _ _ _ x=>x.elim)
 obtain⟨hB1,rfl⟩:=hr;rw[bAi] at hB1 ⊢;conv=>whnf
 repeat' first|(((first|apply oI.z|apply cI.z))<;>(conv=>whnf))
 refine CN.par2 (A:=[]) (Lp:=Lp) (B:=[_]) rfl (Fn.pan (aKh _ bb _ _ hB1 hbyte hne Aa)) (fun v h2 Lp2 hl2 hr=>?_) (fun _ _ _ _ x=>x.elim)
 obtain⟨rfl,rfl⟩:=hr;conv=>whnf
 repeat' first|(((first|apply oI.z|apply cI.z))<;>(conv=>whnf))
 exact RN.a rfl
def mN(t:Tr):List Nat × Nat:=if aS t then (if 4000<(aM t).length then ([],4) else (aM t,0)) else ([],40)
theorem aD8(t:Tr)(h:aA)(vs:List Value)(tb:Tb h)(pw:Pw h)(w:IsE h vs t):Fn0 T F.q12 [.agg vs.toArray] h fun v h'=>v=.tuple #[.string (txt (mN t).1),.int .i64 (mN t).2]:=by
 have c1:=fun h tb w=>jB t h vs tb w
 have c2:=fun h tb pw w (x:aS t)=>aB5 t 1 x.1 x.2 h vs tb pw w
 have hz:=bF (aM t);have r1:¬aS t->mN t=([],40):=fun x=>if_neg x
 have r2:aS t->4000<(aM t).length->mN t=([],4):=fun x y=>by unfold mN;rw[if_pos x,if_pos y]
 have r3:aS t->¬4000<(aM t).length->mN t=(aM t,0):=fun x y=>by unfold mN;rw[if_pos x,if_neg y]
 obtain⟨R,hR⟩:=AE (mN t);obtain⟨X,hX⟩:=AE (aM t);rw[<-hR] at r1 r2 r3 ⊢;rw[<-hX] at r2 r3 c2 hz;obtain⟨⟨op,arg,neg,l,m,name,ks⟩,ht⟩:=AE t;obtain⟨a,b,s,hvs,-⟩:=(ht.symm▸w:IsE h vs (.mk op arg neg l m name ks)).isK;subst hvs;refine f0C ok D.q12 rfl ?_;conv=>whnf
 repeat' first|((first|(show CN _ _ _ _ _ _;first|(refine CN.f rfl (c1 _ Ab Ab) (fun v h' hl2 hr=>?_);subst hr)|(refine CN.f rfl (c2 _ (tb.mono Ab) (pw.mono Ab) (w.mono Ab) Ab) (fun v h' hl3 hr=>?_);subst hr))|((first|apply oI.z|apply cI.z))|intro (_:Nat)|refine LdN.o 0 rfl rfl ?_)<;>conv=>whnf)|(show cnd _ _ _;first|(apply aB<;>intro _<;>first|(exfalso;omega)|conv=>whnf)|(refine aI ?_)|(apply aN<;>intro _<;>first|(exfalso;omega)|conv=>whnf))
 all_goals first
  | (rw[r1 Ab];exact RN.a rfl)
  | (rw[r2 Ab Aa];exact RN.a rfl)
  | (rw[r3 Ab Aa];exact RN.a rfl)
end Go.Proofs.Y
/- The sanity check of every statement: one fixed text, its tree, and back. -/
namespace Go.Proofs.Y
open Go Go.Vc Go.Dig
def qV:List Nat:=[50,32,42,32,120]
def aD9:Tr:=.mk 1 0 false [2] [] [] []
def nF:Tr:=aH 7 0 [aD9,sG [120]]
theorem mE:(2:Rat).num=2/\(2:Rat).den=1:=Ag
theorem aXi:mkQ false 2 1=2:=by
 unfold mkQ;rw[if_neg Ag,Rat.mkRat_one]
 rfl
theorem dg2:dg 4294967296 2=[2]:=by
 rw[gJ tlB Ag,show 2%4294967296=2 by decide,show 2 / 4294967296=0 by decide,cH]
theorem aUm:fits 2:=by
 unfold fits nu;rw[mE.1,mE.2];unfold ln;rw[show (2:Int).natAbs=2 from rfl,dg2,gJ tlB (show 1≠0 by decide),show 1 / 4294967296=0 by decide,cH]
 exact⟨Ag,Ag⟩
theorem aOf:parseL [50]=(2,0):=by
 have:parseL [50]=eA (mkQ false 2 1):=by
  unfold parseL;rw[if_neg Ag,if_neg Ag]
  rfl
 rw[this,aXi];unfold eA;rw[if_pos aUm]
theorem aYn:prs [50]=(false,[2],[]):=by
 unfold prs;rw[aOf];unfold sg nu dn;rw[mE.1,mE.2,if_pos rfl,show (2:Int).natAbs=2 from rfl,dg2,cH]
 rfl
theorem aAh:cQ qV.length qV 0 []=([⟨1,[50],0⟩,⟨0,[42],2⟩,⟨2,[120],4⟩],-1):=by kernel_rfl
theorem aSr:NkT [⟨1,[50],0⟩,⟨0,[42],2⟩,⟨2,[120],4⟩]:=⟨Ag,fun parse=>⟨.ok (aH 7 0 [aJ6 [50] parse,sG [120]]) 3 [],by kernel_rfl⟩⟩
theorem aOg:sJ [⟨1,[50],0⟩,⟨0,[42],2⟩,⟨2,[120],4⟩]=.ok nF 3 []:=by
 have:tX [⟨1,[50],0⟩,⟨0,[42],2⟩,⟨2,[120],4⟩] prs=.ok (aH 7 0 [aJ6 [50] prs,sG [120]]) 3 []:=by kernel_rfl
 unfold sJ;rw[this];unfold aJ6;rw[aYn]
 rfl
theorem aXj:evl 4294967296 [2]=2:=by rw[eW,bD]
theorem aXk:kP 2=[50]:=by
 unfold kP;rw[if_neg Ag,gJ iA Ag,show 2 / 10=0 by decide,cH]
 rfl
theorem aSs:aK false [2] []=2:=by
 unfold aK;rw[bD,if_pos rfl,aXj,aXi]
theorem aXl:okR false [2] []:=by
 unfold okR;rw[aSs];refine⟨?_,?_,aUm⟩
 .rw[aXj];unfold ln;rw[dg2];decide
 .rw[bD];unfold ln;rw[cH];decide
theorem aXm:aGi false [2] []:=⟨aXl,by rw[aSs];decide⟩
theorem aVh:dH [120]:=Ag
theorem aEa:aS nF:=by
 unfold aS nF aD9 aH sG;simp only[okT,bZ,szT,dA];refine⟨⟨Ag,?_,⟨Ag,?_,trivial⟩,⟨Ag,?_,trivial⟩,trivial⟩,Ag⟩
 .exact⟨rfl,Ag,Ag,by rw[if_neg Ag],by rw[if_neg Ag,bD]⟩
 .exact⟨rfl,Ag,Ag,by rw[if_neg Ag],by rw[if_pos rfl];exact aXm⟩
 .exact⟨rfl,Ag,Ag,by rw[if_pos rfl];exact aVh,by rw[if_neg Ag,bD]⟩
theorem aYo:nC false [2] []=2:=by unfold nC;rw[if_pos aXl,aSs]
theorem aGm:fX nF=nF:=by
 unfold nF aD9 aH sG;simp only[fX,dD];rw[if_neg Ag,if_pos trivial,aYo];unfold sg nu dn;rw[mE.1,mE.2,if_pos rfl,show (2:Int).natAbs=2 from rfl,dg2,cH]
 rfl
theorem aGn:jP qV=(nF,0,0):=by
 have hc:pM [⟨1,[50],0⟩,⟨0,[42],2⟩,⟨2,[120],4⟩] []=(0,0):=by
  have e1:List.find? (fun t=>decide (iB t)) [⟨1,[50],0⟩,⟨0,[42],2⟩,⟨2,[120],4⟩]=none:=Ag
  have e2:List.filter (fun t=>decide (fO t)) [⟨1,[50],0⟩,⟨0,[42],2⟩,⟨2,[120],4⟩]=[]:=by
   refine List.filter_eq_nil_iff.2 fun t ht=>?_
   simp only[aZl,bAy,or_false] at ht;rcases ht with rfl|rfl|rfl
   .simp only[decide_eq_true_eq];intro h;exact h.2 (by rw[aOf])
   .simp only[decide_eq_true_eq];intro h;exact absurd h.1 Ag
   .simp only[decide_eq_true_eq];intro h;exact absurd h.1 Ag
  unfold pM;rw[e1,e2]
  rfl
 unfold jP;rw[if_neg Ag,aAh,if_neg Ag,aOg];simp only;rw[hc,if_neg Ag];unfold dR;rw[if_pos aEa,aGm]
theorem aKk:aM nF=qV:=by
 have e:rH 2=[50]:=by
  unfold rH sg nu;rw[mE.1,mE.2,if_neg Ag,if_pos rfl,show (2:Int).natAbs=2 from rfl,aXk]
  rfl
 unfold nF aD9 aH sG;simp only[aM,aU];rw[aSs];unfold uP;simp only[show ¬((7:Int)=1) by decide,show ¬((7:Int)=2) by decide,show ¬((7:Int)=3) by decide,show ¬((7:Int)=4) by decide,show ¬((2:Int)=1) by decide,if_false,if_true,e]
 rfl
theorem aGo:mN nF=(qV,0):=by
 unfold mN;rw[if_pos aEa,aKk,if_neg Ag]
theorem Idx.kidC{h:aA}{s:Sl}{ts:List Tr}(w:IsK h s ts){i:Int}{k:Addr->Prop}(j:Nat)(t:Tr)(hi:i=j)(ht:ts[j]?=some t)
  (hk:∀(ad:Addr) (vs:List Value),IsE h vs t->(∀h' L m,h.le h'->m<7->Has h' L (ad.add m) (vs.getD m undef))->k ad):Idx s.a i s.l 7 k:=by
 obtain⟨hj,-⟩:=aY5.1 ht;rcases w.mem with e|⟨bl,off,c,T,fz,e1,e2,e3⟩
 .subst e;simp at ht
 .obtain⟨vs,h1,h2,h3⟩:=fL.get e3 ht;refine Idx.of j e1 hi (by rw[w.len];exact hj) (hk _ vs h3 fun h' L m hl hm=>?_)
  rw[aZ];refine Has.imm (hl _ _ e2) ?_;rw[h2 m hm,aY3,aY4 Aa]
  rfl
attribute [local irreducible] Vc.Fn
theorem aSt(h:aA)(tb:Tb h)(pw:Pw h):Fn0 T F.q5 [] h fun v h'=>v=.bool true:=by
 have c1:=fun h tb=>aSb h tb qV Ag (by rw[aAh];exact aSr)
 rw[aGn] at c1;have c2:=fun h tb pw vs w=>aD8 nF h vs tb pw w
 rw[aGo] at c2;replace c1:∀h,Tb h->Fn0 T F.q20 [.string (txt qV)] h fun v h'=>∃a,v=.tuple #[a,.int .i64 (0:Nat),.int .i64 (0:Nat)]/\VE h' a nF:=c1
 replace c2:∀h,Tb h->Pw h->∀vs,IsE h vs nF->Fn0 T F.q12 [.agg vs.toArray] h fun v h'=>v=.tuple #[.string (txt qV),.int .i64 (0:Nat)]:=c2
 refine f0C ok D.q5 rfl ?_;conv=>whnf
 repeat' first|((first|(show CN _ _ _ _ _ _;first|(refine CN.f rfl (c1 _ tb) (fun v h' hl hr=>?_);obtain⟨_,rfl,op,ar,ng,nn,dd,nm,ss,rfl,hE⟩:=hr;obtain⟨rfl,rfl,rfl,hv0,hnm,hb0,hks⟩:=IsE.inv hE;have hkl:=hks.len;rw[show [aD9,sG [120]].length=2 from rfl] at hkl;have c2':=c2 _ (tb.mono hl) (pw.mono hl) _ hE)|(refine CN.f rfl c2' (fun v h' hl hr=>?_);subst hr;have hks2:=hks.mono hl))|(show Idx _ _ _ _ _;(refine Idx.kidC hks2 1 (sG [120]) rfl rfl (fun ad vs hE1 hld=>?_);obtain⟨va,vb,vss,rfl,-⟩:=(hE1:IsE _ _ (.mk 2 0 false [] [] [120] [])).isK))|(show Ld _ _ _ _;first|refine Ld.of (hld _ _ 5 (aA.lr _) Ag) ?_|refine Ld.o 0 rfl rfl ?_)|((first|apply oI.z|apply cI.z))|intro (_:Nat)|refine LdN.o 0 rfl rfl ?_|refine Sto.l 0 rfl rfl rfl ?_)<;>conv=>whnf)|(show cnd _ _ _;first|(refine jV (a:=qV) (b:=qV) Ag Ag (fun _=>?_) (fun hx=>absurd rfl hx);conv=>whnf)|(apply aD<;>intro _<;>first|(exfalso;omega)|conv=>whnf)|(refine aI ?_))
 refine RN.a ?_
 congr 1
 unfold seq;exact beq_self_eq_true _
end Go.Proofs.Y
/- ExprNames: its law. -/
namespace Go.Proofs.Y
open Go Go.Vc Go.Dig
attribute [local irreducible] Vc.Fn
end Go.Proofs.Y