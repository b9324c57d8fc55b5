/- expr.Print. -/
import Derived.Test.YtblecjeceecaaaaGreatDoorE26
set_option linter.all false
set_option maxHeartbeats 1000000
set_option maxRecDepth 20000
namespace Go.Proofs.Y
open Go Go.Vc Go.Dig
theorem sU{x:List Nat × Int}(low:Int)(h:∀y∈x.1,y<256):∀y∈aN x low,y<256:=fun y hy=>by
 unfold aN at hy
 split at hy
 .exact h y hy
 .rcases bIx.1 hy with hy|hy
  .rcases bIx.1 hy with hy|hy
   .simp only[bI7,bKt,or_false] at hy;omega
   .exact h y hy
  .simp only[bI7,bKt,or_false] at hy;omega
theorem vL:∀(b:Bool) (xs:List (List Nat × Int)),(∀x∈xs,∀y∈x.1,y<256)->∀y∈bR b xs,y<256
 | true,[],_,y,hy=>by simp[bR] at hy
 | false,[],_,y,hy=>by simp[bR] at hy
 | true,x::r,h,y,hy=>by
  rw[bR] at hy;rcases bIx.1 hy with hy|hy
  .exact h x bIw y hy
  .exact vL false r (fun z hz=>h z (bIz _ hz)) y hy
 | false,x::r,h,y,hy=>by
  rw[bR] at hy;rcases bIx.1 hy with hy|hy
  .rcases bIx.1 hy with hy|hy
   .simp only[bI7,bKt,or_false] at hy;omega
   .exact h x bIw y hy
  .exact vL false r (fun z hz=>h z (bIz _ hz)) y hy
theorem aEg{xs:List (List Nat × Int)}(h:∀x∈xs,∀y∈x.1,y<256)(i:Nat):∀y∈(xs.getD i ([],0)).1,y<256:=fun y hy=>by
 by_cases hi:i<xs.length
 .rw[bIp,bIq hi] at hy;exact h _ (bK2 hi) y hy
 .rw[bIp,bJn Aa] at hy;simp at hy
theorem aBy(op arg:Int)(q:Rat)(name:List Nat)(xs:List (List Nat × Int))(hn:∀y∈name,y<256)(h:∀x∈xs,∀y∈x.1,y<256):∀y∈rT op arg q name xs,y<256:=by
 have p0:=fun low=>sU low (aEg h 0)
 have p1:=fun low=>sU low (aEg h 1)
 have sg:∀y∈kJ op,y<256:=by
  unfold kJ
  (repeat' split)<;>intro y hy<;>simp only[bI7,bKt,or_false] at hy<;>omega
 have hh:=aBx op arg;have hj:=vL true xs h;have app:∀{a b:List Nat},(∀y∈a,y<256)->(∀y∈b,y<256)->∀y∈a++b,y<256:=fun {a b} x z y hy=>(bIx.1 hy).elim (x y) (z y)
 unfold rT
 split
 .exact aEe q
 split
 .exact hn
 split
 .decide
 split
 .exact app Ae (p0 3)
 split
 .exact app (app (p0 1) sg) (p1 2)
 split
 .exact app (app (p0 2) sg) (p1 3)
 split
 .exact app (p0 5) (app Ae (aBv arg))
 .exact app (app hh hj) Ae
theorem aUp{op:Int}(arg:Int)(q:Rat){name:List Nat}(xs:List (List Nat × Int))(hn:op=2->name≠[]):rT op arg q name xs≠[]:=by
 unfold rT
 split
 .exact aOk q
 split
 .rename_i h;exact hn h
 repeat' split
 all_goals simp
 all_goals (unfold kJ;(repeat' split)<;>simp)
theorem aUq{t:Tr}{d:Nat}(h:okT d t):aE t≠[]:=by
 obtain⟨op,arg,neg,l,m,name,ks⟩:=t;rw[okT] at h;rw[aE];refine aUp _ _ _ fun e=>?_
 have:=h.2.1.2.2.2.1;rw[if_pos e] at this;exact this.2.2.1
mutual
theorem aBz:∀(t:Tr) (d:Nat) (h:aA) (vs:List Value),okT d t->IsE h vs t->∀y∈aE t,y<256
 | .mk op arg neg l m name ks,d,h,vs,ho,w=>by
  obtain⟨a,b,s,rfl,-,-,hv,hb,hk⟩:=w.isK;rw[okT] at ho;have hx:∀x∈aL ks,∀y∈x.1,y<256:=by
   rcases hk.mem with e|⟨bl,off,c,T,fz,-,-,h3⟩
   .subst e;rw[aL];simp
   .exact zN ks (d+1) h c off ho.2.2 h3
  rw[aE];exact aBy _ _ _ _ _ hb hx
theorem zN:∀(ks:List Tr) (d:Nat) (h:aA) (c:Array Value) (off:Nat),dB d ks->kM h c off ks->∀x∈aL ks,∀y∈x.1,y<256
 | [],_,_,_,_,_,_=>by rw[aL];simp
 | t::ks,d,h,c,off,ho,w=>by
  rw[dB] at ho;rw[kM] at w;obtain⟨⟨vs,-,-,hE⟩,w2⟩:=w;rw[aL];intro x hx;rcases bI7.1 hx with rfl|hx
  .exact aBz t d h vs ho.1 hE
  .exact zN ks d h c _ ho.2 w2 x hx
end
attribute [local irreducible] Vc.Fn
theorem aGp(t:Tr)(d:Nat)(hok:okT d t)(hsz:szT t<=300)(h:aA)(vs:List Value)(tb:Tb h)(pw:Pw h)(w:IsE h vs t):Fn0 T F.q73 [.agg vs.toArray] h fun v h'=>v=.string (txt (aE t)):=by
 have hlen:=mY t d hok;have hbyte:=aBz t d h vs hok w;have hne:=aUq hok;have hwr:=aUo t d hok;obtain⟨⟨op,arg,neg,l,m,name,ks⟩,ht⟩:=AH t;obtain⟨a,b,s,hvs,-⟩:=(ht.symm▸w:IsE h vs (.mk op arg neg l m name ks)).isK;subst hvs;refine f0C ok D.q73 rfl ?_;conv=>whnf
 repeat' ((first|((first|apply oI.z|apply cI.z))|intro (_:Nat)|refine LdN.o 1 rfl rfl ?_)<;>conv=>whnf)
 rename_i be bb;refine CN.par2 (A:=[]) (Lp:=[_]) (B:=[_]) rfl (Fn.pan (hwr _ _ bb [] _ tb pw w ⟨_,_,[],rfl,.inl rfl,aF.nil _ _ _⟩ (by simp only[bIv];omega))) (fun v h1 Lp hl1 hr=>?_) (fun _ _ _ _ x=>x.elim)
 obtain⟨hB1,rfl⟩:=hr;rw[bKc] at hB1 ⊢;conv=>whnf
 repeat' first|(((first|apply oI.z|apply cI.z))<;>(conv=>whnf))
 refine CN.par2 (A:=[]) (Lp:=Lp) (B:=[_]) rfl (Fn.pan (aQ7 _ bb _ _ hB1 hbyte hne Aa)) (fun v h2 Lp2 hl2 hr=>?_) (fun _ _ _ _ x=>x.elim)
 obtain⟨rfl,rfl⟩:=hr;conv=>whnf
 repeat' first|(((first|apply oI.z|apply cI.z))<;>(conv=>whnf))
 exact RN.a rfl
def pE(t:Tr):List Nat × Nat:=if bB t then (if 4000<(aE t).length then ([],4) else (aE t,0)) else ([],40)
theorem aUr(t:Tr)(h:aA)(vs:List Value)(tb:Tb h)(pw:Pw h)(w:IsE h vs t):Fn0 T F.q33 [.agg vs.toArray] h fun v h'=>v=.tuple #[.string (txt (pE t).1),.int .i64 (pE t).2]:=by
 have c1:=fun h tb w=>nJ t h vs tb w
 have c2:=fun h tb pw w (x:bB t)=>aGp t 1 x.1 x.2 h vs tb pw w
 have hz:=bW (aE t);have r1:¬bB t->pE t=([],40):=fun x=>if_neg x
 have r2:bB t->4000<(aE t).length->pE t=([],4):=fun x y=>by unfold pE;rw[if_pos x,if_pos y]
 have r3:bB t->¬4000<(aE t).length->pE t=(aE t,0):=fun x y=>by unfold pE;rw[if_pos x,if_neg y]
 obtain⟨R,hR⟩:=AH (pE t);obtain⟨X,hX⟩:=AH (aE t);rw[<-hR] at r1 r2 r3 ⊢;rw[<-hX] at r2 r3 c2 hz;obtain⟨⟨op,arg,neg,l,m,name,ks⟩,ht⟩:=AH t;obtain⟨a,b,s,hvs,-⟩:=(ht.symm▸w:IsE h vs (.mk op arg neg l m name ks)).isK;subst hvs;refine f0C ok D.q33 rfl ?_;conv=>whnf
 repeat' first|((first|(show CN _ _ _ _ _ _;first|(refine CN.f rfl (c1 _ Ab Ab) (fun v h' hl2 hr=>?_);subst hr)|(refine CN.f rfl (c2 _ (tb.mono Ab) (pw.mono Ab) (w.mono Ab) Ab) (fun v h' hl3 hr=>?_);subst hr))|((first|apply oI.z|apply cI.z))|intro (_:Nat)|refine LdN.o 0 rfl rfl ?_)<;>conv=>whnf)|(show cnd _ _ _;first|(apply aB<;>intro _<;>first|(exfalso;omega)|conv=>whnf)|(refine aI ?_)|(apply aU<;>intro _<;>first|(exfalso;omega)|conv=>whnf))
 all_goals first
  | (rw[r1 Ab];exact RN.a rfl)
  | (rw[r2 Ab Aa];exact RN.a rfl)
  | (rw[r3 Ab Aa];exact RN.a rfl)
end Go.Proofs.Y
/- The sanity check of every statement: one fixed text, its tree, and back. -/
namespace Go.Proofs.Y
open Go Go.Vc Go.Dig
def uS:List Nat:=[50,32,42,32,120]
def aI8:Tr:=.mk 1 0 false [2] [] [] []
def pX:Tr:=aG 7 0 [aI8,gA [120]]
theorem oO:(2:Rat).num=2/\(2:Rat).den=1:=Ae
theorem bFk:mkQ false 2 1=2:=by
 unfold mkQ;rw[if_neg Ae,Rat.mkRat_one]
 rfl
theorem dg2:dg 4294967296 2=[2]:=by
 rw[iQ tlB Ae,show 2%4294967296=2 by decide,show 2 / 4294967296=0 by decide,dO]
theorem bB9:fits 2:=by
 unfold fits nu;rw[oO.1,oO.2];unfold ln;rw[show (2:Int).natAbs=2 from rfl,dg2,iQ tlB (show 1≠0 by decide),show 1 / 4294967296=0 by decide,dO]
 exact⟨Ae,Ae⟩
theorem aUs:parseL [50]=(2,0):=by
 have:parseL [50]=eO (mkQ false 2 1):=by
  unfold parseL;rw[if_neg Ae,if_neg Ae]
  rfl
 rw[this,bFk];unfold eO;rw[if_pos bB9]
theorem bHj:prs [50]=(false,[2],[]):=by
 unfold prs;rw[aUs];unfold sg nu dn;rw[oO.1,oO.2,if_pos rfl,show (2:Int).natAbs=2 from rfl,dg2,dO]
 rfl
theorem aQ9:dD uS.length uS 0 []=([⟨1,[50],0⟩,⟨0,[42],2⟩,⟨2,[120],4⟩],-1):=by kernel_rfl
theorem nk_sane:NkT [⟨1,[50],0⟩,⟨0,[42],2⟩,⟨2,[120],4⟩]:=⟨Ae,fun parse=>⟨.ok (aG 7 0 [aI3 [50] parse,gA [120]]) 3 [],by kernel_rfl⟩⟩
theorem aUt:sR [⟨1,[50],0⟩,⟨0,[42],2⟩,⟨2,[120],4⟩]=.ok pX 3 []:=by
 have:sP [⟨1,[50],0⟩,⟨0,[42],2⟩,⟨2,[120],4⟩] prs=.ok (aG 7 0 [aI3 [50] prs,gA [120]]) 3 []:=by kernel_rfl
 unfold sR;rw[this];unfold aI3;rw[bHj]
 rfl
theorem bFl:evl 4294967296 [2]=2:=by rw[fJ,bH]
theorem bFm:bN 2=[50]:=by
 unfold bN;rw[if_neg Ae,iQ fG Ae,show 2 / 10=0 by decide,dO]
 rfl
theorem bAf:aK false [2] []=2:=by
 unfold aK;rw[bH,if_pos rfl,bFl,bFk]
theorem bFn:okR false [2] []:=by
 unfold okR;rw[bAf];refine⟨?_,?_,bB9⟩
 .rw[bFl];unfold ln;rw[dg2];decide
 .rw[bH];unfold ln;rw[dO];decide
theorem bFo:aMg false [2] []:=⟨bFn,by rw[bAf];decide⟩
theorem bC9:fD [120]:=Ae
theorem aI9:bB pX:=by
 unfold bB pX aI8 aG gA;simp only[okT,dB,szT,fO];refine⟨⟨Ae,?_,⟨Ae,?_,trivial⟩,⟨Ae,?_,trivial⟩,trivial⟩,Ae⟩
 .exact⟨rfl,Ae,Ae,by rw[if_neg Ae],by rw[if_neg Ae,bH]⟩
 .exact⟨rfl,Ae,Ae,by rw[if_neg Ae],by rw[if_pos rfl];exact bFo⟩
 .exact⟨rfl,Ae,Ae,by rw[if_pos rfl];exact bC9,by rw[if_neg Ae,bH]⟩
theorem bHk:pC false [2] []=2:=by unfold pC;rw[if_pos bFn,bAf]
theorem aMj:lC pX=pX:=by
 unfold pX aI8 aG gA;simp only[lC,dP];rw[if_neg Ae,if_pos trivial,bHk];unfold sg nu dn;rw[oO.1,oO.2,if_pos rfl,show (2:Int).natAbs=2 from rfl,dg2,dO]
 rfl
theorem aMk:jL uS=(pX,0,0):=by
 have hc:pS [⟨1,[50],0⟩,⟨0,[42],2⟩,⟨2,[120],4⟩] []=(0,0):=by
  have e1:List.find? (fun t=>decide (jD t)) [⟨1,[50],0⟩,⟨0,[42],2⟩,⟨2,[120],4⟩]=none:=Ae
  have e2:List.filter (fun t=>decide (gW t)) [⟨1,[50],0⟩,⟨0,[42],2⟩,⟨2,[120],4⟩]=[]:=by
   refine List.filter_eq_nil_iff.2 fun t ht=>?_
   simp only[bI7,bKt,or_false] at ht;rcases ht with rfl|rfl|rfl
   .simp only[decide_eq_true_eq];intro h;exact h.2 (by rw[aUs])
   .simp only[decide_eq_true_eq];intro h;exact absurd h.1 Ae
   .simp only[decide_eq_true_eq];intro h;exact absurd h.1 Ae
  unfold pS;rw[e1,e2]
  rfl
 unfold jL;rw[if_neg Ae,aQ9,if_neg Ae,aUt];simp only;rw[hc,if_neg Ae];unfold mF;rw[if_pos aI9,aMj]
theorem aRa:aE pX=uS:=by
 have e:jB 2=[50]:=by
  unfold jB sg nu;rw[oO.1,oO.2,if_neg Ae,if_pos rfl,show (2:Int).natAbs=2 from rfl,bFm]
  rfl
 unfold pX aI8 aG gA;simp only[aE,aL];rw[bAf];unfold rT;simp only[show ¬((7:Int)=1) by decide,show ¬((7:Int)=2) by decide,show ¬((7:Int)=3) by decide,show ¬((7:Int)=4) by decide,show ¬((2:Int)=1) by decide,if_false,if_true,e]
 rfl
theorem aMl:pE pX=(uS,0):=by
 unfold pE;rw[if_pos aI9,aRa,if_neg Ae]
theorem Idx.kidC{h:aA}{s:Sl}{ts:List Tr}(w:IsK h s ts){i:Int}{k:Addr->Prop}(j:Nat)(t:Tr)(hi:i=j)(ht:ts[j]?=some t)
  (hk:∀(ad:Addr) (vs:List Value),IsE h vs t->(∀h' L m,h.le h'->m<7->Has h' L (ad.add m) (vs.getD m undef))->k ad):Idx s.a i s.l 7 k:=by
 obtain⟨hj,-⟩:=bIr.1 ht;rcases w.mem with e|⟨bl,off,c,T,fz,e1,e2,e3⟩
 .subst e;simp at ht
 .obtain⟨vs,h1,h2,h3⟩:=kM.get e3 ht;refine Idx.of j e1 hi (by rw[w.len];exact hj) (hk _ vs h3 fun h' L m hl hm=>?_)
  rw[bQ];refine Has.imm (hl _ _ e2) ?_;rw[h2 m hm,bIp,bIq Aa]
  rfl
attribute [local irreducible] Vc.Fn
theorem uA(h:aA)(tb:Tb h)(pw:Pw h):Fn0 T F.q13 [] h fun v h'=>v=.bool true:=by
 have c1:=fun h tb=>aZz h tb uS Ae (by rw[aQ9];exact nk_sane)
 rw[aMk] at c1;have c2:=fun h tb pw vs w=>aUr pX h vs tb pw w
 rw[aMl] at c2;replace c1:∀h,Tb h->Fn0 T F.q43 [.string (txt uS)] h fun v h'=>∃a,v=.tuple #[a,.int .i64 (0:Nat),.int .i64 (0:Nat)]/\VE h' a pX:=c1
 replace c2:∀h,Tb h->Pw h->∀vs,IsE h vs pX->Fn0 T F.q33 [.agg vs.toArray] h fun v h'=>v=.tuple #[.string (txt uS),.int .i64 (0:Nat)]:=c2
 refine f0C ok D.q13 rfl ?_;conv=>whnf
 repeat' first|((first|(show CN _ _ _ _ _ _;first|(refine CN.f rfl (c1 _ tb) (fun v h' hl hr=>?_);obtain⟨_,rfl,op,ar,ng,nn,dd,nm,ss,rfl,hE⟩:=hr;obtain⟨rfl,rfl,rfl,hv0,hnm,hb0,hks⟩:=IsE.inv hE;have hkl:=hks.len;rw[show [aI8,gA [120]].length=2 from rfl] at hkl;have c2':=c2 _ (tb.mono hl) (pw.mono hl) _ hE)|(refine CN.f rfl c2' (fun v h' hl hr=>?_);subst hr;have hks2:=hks.mono hl))|(show Idx _ _ _ _ _;(refine Idx.kidC hks2 1 (gA [120]) rfl rfl (fun ad vs hE1 hld=>?_);obtain⟨va,vb,vss,rfl,-⟩:=(hE1:IsE _ _ (.mk 2 0 false [] [] [120] [])).isK))|(show Ld _ _ _ _;first|refine Ld.of (hld _ _ 5 (aA.lr _) Ae) ?_|refine Ld.o 0 rfl rfl ?_)|((first|apply oI.z|apply cI.z))|intro (_:Nat)|refine LdN.o 0 rfl rfl ?_|refine Sto.l 0 rfl rfl rfl ?_)<;>conv=>whnf)|(show cnd _ _ _;first|(refine oM (a:=uS) (b:=uS) Ae Ae (fun _=>?_) (fun hx=>absurd rfl hx);conv=>whnf)|(apply aD<;>intro _<;>first|(exfalso;omega)|conv=>whnf)|(refine aI ?_))
 refine RN.a ?_
 congr 1
 unfold seq;exact beq_self_eq_true _
end Go.Proofs.Y
/- ExprNames: its law. -/
namespace Go.Proofs.Y
open Go Go.Vc Go.Dig
attribute [local irreducible] Vc.Fn
end Go.Proofs.Y