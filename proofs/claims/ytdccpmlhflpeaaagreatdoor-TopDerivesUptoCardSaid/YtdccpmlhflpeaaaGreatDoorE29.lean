/- expr.Print. -/
import Derived.Test.YtdccpmlhflpeaaaGreatDoorE26
set_option linter.all false
set_option maxHeartbeats 1000000
set_option maxRecDepth 20000
namespace Go.Proofs.Y
open Go Go.Vc Go.Dig
theorem wW{x:List Nat × Int}(low:Int)(h:∀y∈x.1,y<256):∀y∈bM x low,y<256:=fun y hy=>by
 unfold bM at hy
 split at hy
 .exact h y hy
 .rcases bDf.1 hy with hy|hy
  .rcases bDf.1 hy with hy|hy
   .simp only[bDp,bFy,or_false] at hy;omega
   .exact h y hy
  .simp only[bDp,bFy,or_false] at hy;omega
theorem aB9{xs:List (List Nat × Int)}(h:∀x∈xs,∀y∈x.1,y<256)(i:Nat):∀y∈(xs.getD i ([],0)).1,y<256:=fun y hy=>by
 by_cases hi:i<xs.length
 .rw[bC7,bC8 hi] at hy;exact h _ (bFe hi) y hy
 .rw[bC7,bD5 Aa] at hy;simp at hy
theorem aI8(op arg:Int)(q:Rat)(name:List Nat)(xs:List (List Nat × Int))(hn:∀y∈name,y<256)(h:∀x∈xs,∀y∈x.1,y<256):∀y∈uM op arg q name xs,y<256:=by
 have p0:=fun low=>wW low (aB9 h 0)
 have p1:=fun low=>wW low (aB9 h 1)
 have sg:∀y∈jU op,y<256:=by
  unfold jU
  (repeat' split)<;>intro y hy<;>simp only[bDp,bFy,or_false] at hy<;>omega
 have app:∀{a b:List Nat},(∀y∈a,y<256)->(∀y∈b,y<256)->∀y∈a++b,y<256:=fun {a b} x z y hy=>(bDf.1 hy).elim (x y) (z y)
 unfold uM
 split
 .exact aB7 q
 split
 .exact hn
 split
 .exact app Ad (p0 3)
 split
 .exact app (app (p0 1) sg) (p1 2)
 split
 .exact app (app (p0 2) sg) (p1 3)
 .exact app (p0 5) (app Ad (aGd arg))
theorem aRa{op:Int}(arg:Int)(q:Rat){name:List Nat}(xs:List (List Nat × Int))(hn:op=2->name≠[]):uM op arg q name xs≠[]:=by
 unfold uM
 split
 .exact aK6 q
 split
 .rename_i h;exact hn h
 repeat' split
 all_goals simp
 all_goals (unfold jU;(repeat' split)<;>simp)
theorem aRb{t:Tr}{d:Nat}(h:okT d t):aK t≠[]:=by
 obtain⟨op,arg,neg,l,m,name,ks⟩:=t;rw[okT] at h;rw[aK];refine aRa _ _ _ fun e=>?_
 have:=h.2.1.2.2.2.1;rw[if_pos e] at this;exact this.2.2.1
mutual
theorem tG:∀(t:Tr) (d:Nat) (h:aA) (vs:List Value),okT d t->IsE h vs t->∀y∈aK t,y<256
 | .mk op arg neg l m name ks,d,h,vs,ho,w=>by
  obtain⟨a,b,s,rfl,-,-,hv,hb,hk⟩:=w.isK;rw[okT] at ho;have hx:∀x∈dC ks,∀y∈x.1,y<256:=by
   rcases hk.mem with e|⟨bl,off,c,T,fz,-,-,h3⟩
   .subst e;rw[dC];simp
   .exact wX ks (d+1) h c off ho.2.2 h3
  rw[aK];exact aI8 _ _ _ _ _ hb hx
theorem wX:∀(ks:List Tr) (d:Nat) (h:aA) (c:Array Value) (off:Nat),dJ d ks->iU h c off ks->∀x∈dC ks,∀y∈x.1,y<256
 | [],_,_,_,_,_,_=>by rw[dC];simp
 | t::ks,d,h,c,off,ho,w=>by
  rw[dJ] at ho;rw[iU] at w;obtain⟨⟨vs,-,-,hE⟩,w2⟩:=w;rw[dC];intro x hx;rcases bDp.1 hx with rfl|hx
  .exact tG t d h vs ho.1 hE
  .exact wX ks d h c _ ho.2 w2 x hx
end
attribute [local irreducible] Vc.Fn
theorem aK8(t:Tr)(d:Nat)(hok:okT d t)(hsz:szT t<=300)(h:aA)(vs:List Value)(tb:Tb h)(pw:Pw h)(w:IsE h vs t)(hp:aZ t):Fn0 T F.q31 [.agg vs.toArray] h fun v h'=>v=.string (txt (aK t)):=by
 have hlen:=aB8 t d hok;have hbyte:=tG t d h vs hok w;have hne:=aRb hok;have hwr:=aQ9 t d hok hp;obtain⟨⟨op,arg,neg,l,m,name,ks⟩,ht⟩:=AB t;obtain⟨a,b,s,hvs,-⟩:=(ht.symm▸w:IsE h vs (.mk op arg neg l m name ks)).isK;subst hvs;refine f0C ok D.q31 rfl ?_;conv=>whnf
 repeat' ((first|((first|apply oI.z|apply cI.z))|intro (_:Nat)|refine LdN.o 1 rfl rfl ?_)<;>conv=>whnf)
 rename_i be bb;refine CN.par2 (A:=[]) (Lp:=[_]) (B:=[_]) rfl (Fn.pan (hwr _ _ bb [] _ tb pw w ⟨_,_,[],rfl,.inl rfl,aE.nil _ _ _⟩ (by simp only[bDd];omega))) (fun v h1 Lp hl1 hr=>?_) (fun _ _ _ _ x=>x.elim)
 obtain⟨hB1,rfl⟩:=hr;rw[bEm] at hB1 ⊢;conv=>whnf
 repeat' first|(((first|apply oI.z|apply cI.z))<;>(conv=>whnf))
 refine CN.par2 (A:=[]) (Lp:=Lp) (B:=[_]) rfl (Fn.pan (aNs _ bb _ _ hB1 hbyte hne Aa)) (fun v h2 Lp2 hl2 hr=>?_) (fun _ _ _ _ x=>x.elim)
 obtain⟨rfl,rfl⟩:=hr;conv=>whnf
 repeat' first|(((first|apply oI.z|apply cI.z))<;>(conv=>whnf))
 exact RN.a rfl
def nR(t:Tr):List Nat × Nat:=if dN t then (if 4000<(aK t).length then ([],4) else (aK t,0)) else ([],40)
theorem aRc(t:Tr)(h:aA)(vs:List Value)(tb:Tb h)(pw:Pw h)(w:IsE h vs t)(hp:aZ t):Fn0 T F.q11 [.agg vs.toArray] h fun v h'=>v=.tuple #[.string (txt (nR t).1),.int .i64 (nR t).2]:=by
 have c1:=fun h tb w=>rB t h vs tb w
 have c2:=fun h tb pw w (x:dN t)=>aK8 t 1 x.1 x.2 h vs tb pw w hp
 have hz:=bF (aK t);have r1:¬dN t->nR t=([],40):=fun x=>if_neg x
 have r2:dN t->4000<(aK t).length->nR t=([],4):=fun x y=>by unfold nR;rw[if_pos x,if_pos y]
 have r3:dN t->¬4000<(aK t).length->nR t=(aK t,0):=fun x y=>by unfold nR;rw[if_pos x,if_neg y]
 obtain⟨R,hR⟩:=AB (nR t);obtain⟨X,hX⟩:=AB (aK t);rw[<-hR] at r1 r2 r3 ⊢;rw[<-hX] at r2 r3 c2 hz;obtain⟨⟨op,arg,neg,l,m,name,ks⟩,ht⟩:=AB t;obtain⟨a,b,s,hvs,-⟩:=(ht.symm▸w:IsE h vs (.mk op arg neg l m name ks)).isK;subst hvs;refine f0C ok D.q11 rfl ?_;conv=>whnf
 repeat' first|((first|(show CN _ _ _ _ _ _;first|(refine CN.f rfl (c1 _ Ab Ab) (fun v h' hl2 hr=>?_);subst hr)|(refine CN.f rfl (c2 _ (tb.mono Ab) (pw.mono Ab) (w.mono Ab) Ab) (fun v h' hl3 hr=>?_);subst hr))|((first|apply oI.z|apply cI.z))|intro (_:Nat)|refine LdN.o 0 rfl rfl ?_)<;>conv=>whnf)|(show cnd _ _ _;first|(apply aB<;>intro _<;>first|(exfalso;omega)|conv=>whnf)|(refine aJ ?_)|(apply aW<;>intro _<;>first|(exfalso;omega)|conv=>whnf))
 all_goals first
  | (rw[r1 Ab];exact RN.a rfl)
  | (rw[r2 Ab Aa];exact RN.a rfl)
  | (rw[r3 Ab Aa];exact RN.a rfl)
end Go.Proofs.Y
/- The sanity check of every statement: one fixed text, its tree, and back. -/
namespace Go.Proofs.Y
open Go Go.Vc Go.Dig
def aGe:List Nat:=[50,32,42,32,120]
def aK9:Tr:=.mk 1 0 false [2] [] [] []
def wY:Tr:=aF 7 0 [aK9,tE [120]]
theorem rZ:(2:Rat).num=2/\(2:Rat).den=1:=Ad
theorem bBq:mkQ false 2 1=2:=by
 unfold mkQ;rw[if_neg Ad,Rat.mkRat_one]
 rfl
theorem dg2:dg 4294967296 2=[2]:=by
 rw[gT tlB Ad,show 2%4294967296=2 by decide,show 2 / 4294967296=0 by decide,cM]
theorem aX1:fits 2:=by
 unfold fits nu;rw[rZ.1,rZ.2];unfold ln;rw[show (2:Int).natAbs=2 from rfl,dg2,gT tlB (show 1≠0 by decide),show 1 / 4294967296=0 by decide,cM]
 exact⟨Ad,Ad⟩
theorem aRd:parseL [50]=(2,0):=by
 have:parseL [50]=fH (mkQ false 2 1):=by
  unfold parseL;rw[if_neg Ad,if_neg Ad]
  rfl
 rw[this,bBq];unfold fH;rw[if_pos aX1]
theorem bCv:prs [50]=(false,[2],[]):=by
 unfold prs;rw[aRd];unfold sg nu dn;rw[rZ.1,rZ.2,if_pos rfl,show (2:Int).natAbs=2 from rfl,dg2,cM]
 rfl
theorem aCa:bQ aGe.length aGe 0 []=([⟨1,[50],0⟩,⟨0,[42],2⟩,⟨2,[120],4⟩],-1):=by kernel_rfl
theorem aV6:NkT [⟨1,[50],0⟩,⟨0,[42],2⟩,⟨2,[120],4⟩]:=by unfold NkT;decide
theorem aRe:rA [⟨1,[50],0⟩,⟨0,[42],2⟩,⟨2,[120],4⟩]=.ok wY 3 []:=by
 have:qZ [⟨1,[50],0⟩,⟨0,[42],2⟩,⟨2,[120],4⟩] prs=.ok (aF 7 0 [aF8 [50] prs,tE [120]]) 3 []:=by kernel_rfl
 unfold rA;rw[this];unfold aF8;rw[bCv]
 rfl
theorem bBr:evl 4294967296 [2]=2:=by rw[eD,aU]
theorem aY5:aN false [2] []=2:=by
 unfold aN;rw[aU,if_pos rfl,bBr,bBq]
theorem bBs:okR false [2] []:=by
 unfold okR;rw[aY5];refine⟨?_,?_,aX1⟩
 .rw[bBr];unfold ln;rw[dg2];decide
 .rw[aU];unfold ln;rw[cM];decide
theorem bBt:aI5 false [2] []:=⟨bBs,by rw[aY5];decide⟩
theorem aY6:fE [120]:=Ad
theorem aRf:dN wY:=by
 unfold dN wY aK9 aF tE;simp only[okT,dJ,szT,eF];refine⟨⟨Ad,?_,⟨Ad,?_,trivial⟩,⟨Ad,?_,trivial⟩,trivial⟩,Ad⟩
 .exact⟨rfl,Ad,Ad,by rw[if_neg Ad],by rw[if_neg Ad,aU]⟩
 .exact⟨rfl,Ad,Ad,by rw[if_neg Ad],by rw[if_pos rfl];exact bBt⟩
 .exact⟨rfl,Ad,Ad,by rw[if_pos rfl];exact aY6,by rw[if_neg Ad,aU]⟩
theorem bCw:nQ false [2] []=2:=by unfold nQ;rw[if_pos bBs,aY5]
theorem aI9:iV wY=wY:=by
 unfold wY aK9 aF tE;simp only[iV,cH];rw[if_neg Ad,if_pos trivial,bCw];unfold sg nu dn;rw[rZ.1,rZ.2,if_pos rfl,show (2:Int).natAbs=2 from rfl,dg2,cM]
 rfl
theorem aJa:iW aGe=(wY,0,0):=by
 have hc:oM [⟨1,[50],0⟩,⟨0,[42],2⟩,⟨2,[120],4⟩] []=(0,0):=by
  have e1:List.find? (fun t=>decide (gV t)) [⟨1,[50],0⟩,⟨0,[42],2⟩,⟨2,[120],4⟩]=none:=Ad
  have e2:List.filter (fun t=>decide (fJ t)) [⟨1,[50],0⟩,⟨0,[42],2⟩,⟨2,[120],4⟩]=[]:=by
   refine List.filter_eq_nil_iff.2 fun t ht=>?_
   simp only[bDp,bFy,or_false] at ht;rcases ht with rfl|rfl|rfl
   .simp only[decide_eq_true_eq];intro h;exact h.2 (by rw[aRd])
   .simp only[decide_eq_true_eq];intro h;exact absurd h.1 Ad
   .simp only[decide_eq_true_eq];intro h;exact absurd h.1 Ad
  unfold oM;rw[e1,e2]
  rfl
 unfold iW;rw[if_neg Ad,aCa,if_neg Ad,aRe];simp only;rw[hc,if_neg Ad];unfold qE;rw[if_pos aRf,aI9]
theorem Idx.kidC{h:aA}{s:Sl}{ts:List Tr}(w:IsK h s ts){i:Int}{k:Addr->Prop}(j:Nat)(t:Tr)(hi:i=j)(ht:ts[j]?=some t)
  (hk:∀(ad:Addr) (vs:List Value),IsE h vs t->(∀h' L m,h.le h'->m<7->Has h' L (ad.add m) (vs.getD m undef))->k ad):Idx s.a i s.l 7 k:=by
 obtain⟨hj,-⟩:=bC9.1 ht;rcases w.mem with e|⟨bl,off,c,T,fz,e1,e2,e3⟩
 .subst e;simp at ht
 .obtain⟨vs,h1,h2,h3⟩:=iU.get e3 ht;refine Idx.of j e1 hi (by rw[w.len];exact hj) (hk _ vs h3 fun h' L m hl hm=>?_)
  rw[bB];refine Has.imm (hl _ _ e2) ?_;rw[h2 m hm,bC7,bC8 Aa]
  rfl
attribute [local irreducible] Vc.Fn
end Go.Proofs.Y
/- ExprNames: its law. -/
namespace Go.Proofs.Y
open Go Go.Vc Go.Dig
end Go.Proofs.Y