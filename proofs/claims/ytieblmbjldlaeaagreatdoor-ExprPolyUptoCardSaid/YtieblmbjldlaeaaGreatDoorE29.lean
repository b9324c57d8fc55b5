/- expr.Print. -/
import Derived.Test.YtieblmbjldlaeaaGreatDoorE26
set_option linter.all false
set_option maxHeartbeats 1000000
set_option maxRecDepth 20000
namespace Go.Proofs.Y
open Go Go.Vc Go.Dig
theorem rS {x:List Nat × Int} (low:Int) (h:∀y∈x.1,y<256):∀y∈aN x low,y<256:=fun y hy=>by
 unfold aN at hy
 split at hy
 ·exact h y hy
 ·rcases aVx.1 hy with hy|hy
  ·rcases aVx.1 hy with hy|hy
   ·simp only [aV7,List.not_mem_nil,or_false] at hy;omega
   ·exact h y hy
  ·simp only [aV7,List.not_mem_nil,or_false] at hy;omega
theorem oO:∀(b:Bool) (xs:List (List Nat × Int)),(∀x∈xs,∀y∈x.1,y<256)→∀y∈bM b xs,y<256
 | true,[],_,y,hy=>by simp [bM] at hy
 | false,[],_,y,hy=>by simp [bM] at hy
 | true,x::r,h,y,hy=>by
  rw [bM] at hy
  rcases aVx.1 hy with hy|hy
  ·exact h x aVw y hy
  ·exact oO false r (fun z hz=>h z (aVz _ hz)) y hy
 | false,x::r,h,y,hy=>by
  rw [bM] at hy
  rcases aVx.1 hy with hy|hy
  ·rcases aVx.1 hy with hy|hy
   ·simp only [aV7,List.not_mem_nil,or_false] at hy;omega
   ·exact h x aVw y hy
  ·exact oO false r (fun z hz=>h z (aVz _ hz)) y hy
theorem wK {xs:List (List Nat × Int)} (h:∀x∈xs,∀y∈x.1,y<256) (i:Nat):∀y∈(xs.getD i ([],0)).1,y<256:=fun y hy=>by
 by_cases hi:i<xs.length
 ·rw [aVp,aVq hi] at hy
  exact h _ (List.getElem_mem hi) y hy
 ·rw [aVp,List.getElem?_eq_none (by omega)] at hy;simp at hy
theorem aDb (op arg:Int) (q:Rat) (name:List Nat) (xs:List (List Nat × Int)) (hn:∀y∈name,y<256) (h:∀x∈xs,∀y∈x.1,y<256):∀y∈pW op arg q name xs,y<256:=by
 have p0:=fun low=>rS low (wK h 0)
 have p1:=fun low=>rS low (wK h 1)
 have sg:∀y∈jN op,y<256:=by
  unfold jN
  (repeat' split) <;> intro y hy <;> simp only [aV7,List.not_mem_nil,or_false] at hy <;> omega
 have hh:=tY op arg
 have hj:=oO true xs h
 have app:∀{a b:List Nat},(∀y∈a,y<256)→(∀y∈b,y<256)→∀y∈a++b,y<256:=fun {a b} x z y hy=>(aVx.1 hy).elim (x y) (z y)
 unfold pW
 split
 ·exact wI q
 split
 ·exact hn
 split
 ·decide
 split
 ·exact app (by decide) (p0 3)
 split
 ·exact app (app (p0 1) sg) (p1 2)
 split
 ·exact app (app (p0 2) sg) (p1 3)
 split
 ·exact app (p0 5) (app (by decide) (tW arg))
 ·exact app (app hh hj) (by decide)
theorem aJz {op:Int} (arg:Int) (q:Rat) {name:List Nat} (xs:List (List Nat × Int)) (hn:op=2→name≠[]):pW op arg q name xs≠[]:=by
 unfold pW
 split
 ·exact aEs q
 split
 ·rename_i h;exact hn h
 repeat' split
 all_goals simp
 all_goals (unfold jN;(repeat' split) <;> simp)
theorem aJ0 {t:Tr} {d:Nat} (h:okT d t):aF t≠[]:=by
 obtain ⟨op,arg,neg,l,m,name,ks⟩:=t
 rw [okT] at h
 rw [aF]
 refine aJz _ _ _ fun e=>?_
 have:=h.2.1.2.2.2.1
 rw [if_pos e] at this
 exact this.2.2.1
mutual
theorem tZ:∀(t:Tr) (d:Nat) (h:aA) (vs:List Value),okT d t→IsE h vs t→∀y∈aF t,y<256
 | .mk op arg neg l m name ks,d,h,vs,ho,w=>by
  obtain ⟨a,b,s,rfl,-,-,hv,hb,hk⟩:=w.isK
  rw [okT] at ho
  have hx:∀x∈aG ks,∀y∈x.1,y<256:=by
   rcases hk.mem with e|⟨bl,off,c,T,fz,-,-,h3⟩
   ·subst e;rw [aG];simp
   ·exact rT ks (d+1) h c off ho.2.2 h3
  rw [aF]
  exact aDb _ _ _ _ _ hb hx
theorem rT:∀(ks:List Tr) (d:Nat) (h:aA) (c:Array Value) (off:Nat),fN d ks→gN h c off ks→∀x∈aG ks,∀y∈x.1,y<256
 | [],_,_,_,_,_,_=>by rw [aG];simp
 | t::ks,d,h,c,off,ho,w=>by
  rw [fN] at ho
  rw [gN] at w
  obtain ⟨⟨vs,-,-,hE⟩,w2⟩:=w
  rw [aG]
  intro x hx
  rcases aV7.1 hx with rfl|hx
  ·exact tZ t d h vs ho.1 hE
  ·exact rT ks d h c _ ho.2 w2 x hx
end
attribute [local irreducible] Vc.Fn
theorem yQ (t:Tr) (d:Nat) (hok:okT d t) (hsz:szT t≤300) (h:aA) (vs:List Value) (tb:Tb h) (pw:Pw h) (w:IsE h vs t):Fn0 T F.q57 [.agg vs.toArray] h fun v h'=>v=.string (txt (aF t)):=by
 have hlen:=jC t d hok
 have hbyte:=tZ t d h vs hok w
 have hne:=aJ0 hok
 have hwr:=aJy t d hok
 obtain ⟨⟨op,arg,neg,l,m,name,ks⟩,ht⟩:∃u,u=t:=⟨_,rfl⟩
 obtain ⟨a,b,s,hvs,-⟩:=(ht.symm▸w:IsE h vs (.mk op arg neg l m name ks)).isK
 subst hvs
 refine f0C ok D.q57 rfl ?_
 conv=>whnf
 repeat' first|((first|((first|apply oI.z|apply cI.z))|intro (_:Nat)|refine LdN.o 1 rfl rfl ?_) <;> (conv=>whnf))
 rename_i be bb
 refine CN.par2 (A:=[]) (Lp:=[_]) (B:=[_]) rfl (Fn.pan (hwr _ _ bb [] _ tb pw w ⟨_,_,[],rfl,.inl rfl,aD.nil _ _ _⟩ (by simp only [aVv];omega))) (fun v h1 Lp hl1 hr=>?_) (fun _ _ _ _ x=>x.elim)
 obtain ⟨hB1,rfl⟩:=hr
 rw [List.nil_append] at hB1 ⊢
 conv=>whnf
 repeat' first|(((first|apply oI.z|apply cI.z)) <;> (conv=>whnf))
 refine CN.par2 (A:=[]) (Lp:=Lp) (B:=[_]) rfl (Fn.pan (aGy _ bb _ _ hB1 hbyte hne (by omega))) (fun v h2 Lp2 hl2 hr=>?_) (fun _ _ _ _ x=>x.elim)
 obtain ⟨rfl,rfl⟩:=hr
 conv=>whnf
 repeat' first|(((first|apply oI.z|apply cI.z)) <;> (conv=>whnf))
 exact RN.a rfl
def kI (t:Tr):List Nat × Nat:=if dJ t then (if 4000<(aF t).length then ([],4) else (aF t,0)) else ([],40)
theorem aJ1 (t:Tr) (h:aA) (vs:List Value) (tb:Tb h) (pw:Pw h) (w:IsE h vs t):Fn0 T F.q26 [.agg vs.toArray] h fun v h'=>v=.tuple #[.string (txt (kI t).1),.int .i64 (kI t).2]:=by
 have c1:=fun h tb w=>tU t h vs tb w
 have c2:=fun h tb pw w (x:dJ t)=>yQ t 1 x.1 x.2 h vs tb pw w
 have hz:=bB (aF t)
 have r1:¬dJ t→kI t=([],40):=fun x=>if_neg x
 have r2:dJ t→4000<(aF t).length→kI t=([],4):=fun x y=>by unfold kI;rw [if_pos x,if_pos y]
 have r3:dJ t→¬4000<(aF t).length→kI t=(aF t,0):=fun x y=>by unfold kI;rw [if_pos x,if_neg y]
 obtain ⟨R,hR⟩:∃R,R=kI t:=⟨_,rfl⟩
 obtain ⟨X,hX⟩:∃X,X=aF t:=⟨_,rfl⟩
 rw [← hR] at r1 r2 r3 ⊢
 rw [← hX] at r2 r3 c2 hz
 obtain ⟨⟨op,arg,neg,l,m,name,ks⟩,ht⟩:∃u,u=t:=⟨_,rfl⟩
 obtain ⟨a,b,s,hvs,-⟩:=(ht.symm▸w:IsE h vs (.mk op arg neg l m name ks)).isK
 subst hvs
 refine f0C ok D.q26 rfl ?_
 conv=>whnf
 repeat' first|((first|(show CN _ _ _ _ _ _;first|(refine CN.f rfl (c1 _ (by assumption) (by assumption)) (fun v h' hl2 hr=>?_);subst hr)|(refine CN.f rfl (c2 _ (tb.mono (by assumption)) (pw.mono (by assumption)) (w.mono (by assumption)) (by assumption)) (fun v h' hl3 hr=>?_);subst hr))|((first|apply oI.z|apply cI.z))|intro (_:Nat)|refine LdN.o 0 rfl rfl ?_) <;> (conv=>whnf))|(show cnd _ _ _;first|(apply aB<;>intro _<;>first|(exfalso;omega)|conv=>whnf)|(refine aI ?_)|(apply bJ<;>intro _<;>first|(exfalso;omega)|conv=>whnf))
 all_goals first
  | (rw [r1 (by assumption)];exact RN.a rfl)
  | (rw [r2 (by assumption) (by omega)];exact RN.a rfl)
  | (rw [r3 (by assumption) (by omega)];exact RN.a rfl)
end Go.Proofs.Y
/- The sanity check of every statement: one fixed text, its tree, and back. -/
namespace Go.Proofs.Y
open Go Go.Vc Go.Dig
def nU:List Nat:=[50,32,42,32,120]
def aBb:Tr:=.mk 1 0 false [2] [] [] []
def lF:Tr:=aL 7 0 [aBb,nQ [120]]
theorem kA:(2:Rat).num=2∧(2:Rat).den=1:=by decide
theorem aR2:mkQ false 2 1=2:=by
 unfold mkQ
 rw [if_neg (by decide),Rat.mkRat_one]
 rfl
theorem dg2:dg 4294967296 2=[2]:=by
 rw [eX tlB (by decide),show 2%4294967296=2 by decide,show 2 / 4294967296=0 by decide,bS]
theorem aPb:cK 2:=by
 unfold cK nu
 rw [kA.1,kA.2]
 unfold ln
 rw [show (2:Int).natAbs=2 from rfl,dg2,eX tlB (show 1≠0 by decide),show 1 / 4294967296=0 by decide,bS]
 exact ⟨by decide,by decide⟩
theorem aJ2:parseL [50]=(2,0):=by
 have:parseL [50]=iA (mkQ false 2 1):=by
  unfold parseL
  rw [if_neg (by decide),if_neg (by decide)]
  rfl
 rw [this,aR2]
 unfold iA
 rw [if_pos aPb]
theorem aTz:prs [50]=(false,[2],[]):=by
 unfold prs
 rw [aJ2]
 unfold sg nu dn
 rw [kA.1,kA.2,if_pos rfl,show (2:Int).natAbs=2 from rfl,dg2,bS]
 rfl
theorem aG0:cD nU.length nU 0 []=([⟨1,[50],0⟩,⟨0,[42],2⟩,⟨2,[120],4⟩],-1):=by kernel_rfl
theorem aJ3:pU [⟨1,[50],0⟩,⟨0,[42],2⟩,⟨2,[120],4⟩]=.ok lF 3 []:=by
 have:oM [⟨1,[50],0⟩,⟨0,[42],2⟩,⟨2,[120],4⟩] prs=.ok (aL 7 0 [aGi [50] prs,nQ [120]]) 3 []:=by kernel_rfl
 unfold pU
 rw [this]
 unfold aGi
 rw [aTz]
 rfl
theorem aR3:evl 4294967296 [2]=2:=by rw [dG,bF]
theorem aR4:fR 2=[50]:=by
 unfold fR
 rw [if_neg (by decide),eX dX (by decide),show 2 / 10=0 by decide,bS]
 rfl
theorem aN1:aR false [2] []=2:=by
 unfold aR
 rw [bF,if_pos rfl,aR3,aR2]
theorem aR5:okR false [2] []:=by
 unfold okR
 rw [aN1]
 refine ⟨?_,?_,aPb⟩
 ·rw [aR3];unfold ln;rw [dg2];decide
 ·rw [bF];unfold ln;rw [bS];decide
theorem aR6:aC7 false [2] []:=⟨aR5,by rw [aN1];decide⟩
theorem aQg:gH [120]:=by decide
theorem aBc:dJ lF:=by
 unfold dJ lF aBb aL nQ
 simp only [okT,fN,szT,fM]
 refine ⟨⟨by decide,?_,⟨by decide,?_,trivial⟩,⟨by decide,?_,trivial⟩,trivial⟩,by decide⟩
 ·exact ⟨rfl,by decide,by decide,by rw [if_neg (by decide)],by rw [if_neg (by decide),bF]⟩
 ·exact ⟨rfl,by decide,by decide,by rw [if_neg (by decide)],by rw [if_pos rfl];exact aR6⟩
 ·exact ⟨rfl,by decide,by decide,by rw [if_pos rfl];exact aQg,by rw [if_neg (by decide),bF]⟩
theorem aT0:kY false [2] []=2:=by unfold kY;rw [if_pos aR5,aN1]
theorem aDc:lX lF=lF:=by
 unfold lF aBb aL nQ
 simp only [lX,cP]
 rw [if_neg (by decide),if_pos trivial,aT0]
 unfold sg nu dn
 rw [kA.1,kA.2,if_pos rfl,show (2:Int).natAbs=2 from rfl,dg2,bS]
 rfl
theorem aDd:gU nU=(lF,0,0):=by
 have hc:mV [⟨1,[50],0⟩,⟨0,[42],2⟩,⟨2,[120],4⟩] []=(0,0):=by
  have e1:List.find? (fun t=>decide (fK t)) [⟨1,[50],0⟩,⟨0,[42],2⟩,⟨2,[120],4⟩]=none:=by decide
  have e2:List.filter (fun t=>decide (dZ t)) [⟨1,[50],0⟩,⟨0,[42],2⟩,⟨2,[120],4⟩]=[]:=by
   refine List.filter_eq_nil_iff.2 fun t ht=>?_
   simp only [aV7,List.not_mem_nil,or_false] at ht
   rcases ht with rfl|rfl|rfl
   ·simp only [decide_eq_true_eq]
    intro h
    exact h.2 (by rw [aJ2])
   ·simp only [decide_eq_true_eq];intro h;exact absurd h.1 (by decide)
   ·simp only [decide_eq_true_eq];intro h;exact absurd h.1 (by decide)
  unfold mV
  rw [e1,e2]
  rfl
 unfold gU
 rw [if_neg (by decide),aG0,if_neg (by decide),aJ3]
 simp only
 rw [hc,if_neg (by decide)]
 unfold mX
 rw [if_pos aBc,aDc]
theorem aG1:aF lF=nU:=by
 have e:iW 2=[50]:=by
  unfold iW sg nu
  rw [kA.1,kA.2,if_neg (by decide),if_pos rfl,show (2:Int).natAbs=2 from rfl,aR4]
  rfl
 unfold lF aBb aL nQ
 simp only [aF,aG]
 rw [aN1]
 unfold pW
 simp only [show ¬((7:Int)=1) by decide,show ¬((7:Int)=2) by decide,show ¬((7:Int)=3) by decide,show ¬((7:Int)=4) by decide,show ¬((2:Int)=1) by decide,if_false,if_true,e]
 rfl
theorem aDe:kI lF=(nU,0):=by
 unfold kI
 rw [if_pos aBc,aG1,if_neg (by decide)]
theorem Idx.kidC {h:aA} {s:Sl} {ts:List Tr} (w:IsK h s ts) {i:Int} {k:Addr→Prop} (j:Nat) (t:Tr) (hi:i=j) (ht:ts[j]?=some t)
  (hk:∀(ad:Addr) (vs:List Value),IsE h vs t→(∀h' L m,h.le h'→m<7→Has h' L (ad.add m) (vs.getD m undef))→k ad):Idx s.a i s.l 7 k:=by
 obtain ⟨hj,-⟩:=aVr.1 ht
 rcases w.mem with e|⟨bl,off,c,T,fz,e1,e2,e3⟩
 ·subst e;simp at ht
 ·obtain ⟨vs,h1,h2,h3⟩:=gN.get e3 ht
  refine Idx.of j e1 hi (by rw [w.len];exact hj) (hk _ vs h3 fun h' L m hl hm=>?_)
  rw [bD]
  refine Has.imm (hl _ _ e2) ?_
  rw [h2 m hm,aVp,aVq (by omega)]
  rfl
attribute [local irreducible] Vc.Fn
theorem aN2 (h:aA) (tb:Tb h) (pw:Pw h):Fn0 T F.q10 [] h fun v h'=>v=.bool true:=by
 have c1:=fun h tb=>aNl h tb nU (by decide)
 rw [aDd] at c1
 have c2:=fun h tb pw vs w=>aJ1 lF h vs tb pw w
 rw [aDe] at c2
 replace c1:∀h,Tb h→Fn0 T F.q25 [.string (txt nU)] h fun v h'=>∃a,v=.tuple #[a,.int .i64 (0:Nat),.int .i64 (0:Nat)]∧VE h' a lF:=c1
 replace c2:∀h,Tb h→Pw h→∀vs,IsE h vs lF→Fn0 T F.q26 [.agg vs.toArray] h fun v h'=>v=.tuple #[.string (txt nU),.int .i64 (0:Nat)]:=c2
 refine f0C ok D.q10 rfl ?_
 conv=>whnf
 repeat' first|((first|(show CN _ _ _ _ _ _;first|(refine CN.f rfl (c1 _ tb) (fun v h' hl hr=>?_);obtain ⟨_,rfl,op,ar,ng,nn,dd,nm,ss,rfl,hE⟩:=hr;obtain ⟨rfl,rfl,rfl,hv0,hnm,hb0,hks⟩:=IsE.inv hE;have hkl:=hks.len;rw [show [aBb,nQ [120]].length=2 from rfl] at hkl;have c2':=c2 _ (tb.mono hl) (pw.mono hl) _ hE)|(refine CN.f rfl c2' (fun v h' hl hr=>?_);subst hr;have hks2:=hks.mono hl))|(show Idx _ _ _ _ _;(refine Idx.kidC hks2 1 (nQ [120]) rfl rfl (fun ad vs hE1 hld=>?_);obtain ⟨va,vb,vss,rfl,-⟩:=(hE1:IsE _ _ (.mk 2 0 false [] [] [120] [])).isK))|(show Ld _ _ _ _;first|refine Ld.of (hld _ _ 5 (aA.lr _) (by decide)) ?_|refine Ld.o 0 rfl rfl ?_)|((first|apply oI.z|apply cI.z))|intro (_:Nat)|refine LdN.o 0 rfl rfl ?_|refine Sto.l 0 rfl rfl rfl ?_) <;> (conv=>whnf))|(show cnd _ _ _;first|(refine nK (a:=nU) (b:=nU) (by decide) (by decide) (fun _=>?_) (fun hx=>absurd rfl hx);conv=>whnf)|(apply aE<;>intro _<;>first|(exfalso;omega)|conv=>whnf)|(refine aI ?_))
 refine RN.a ?_
 congr 1
 unfold seq
 exact beq_self_eq_true _
end Go.Proofs.Y
/- ExprNames: its law. -/
namespace Go.Proofs.Y
open Go Go.Vc Go.Dig
attribute [local irreducible] Vc.Fn
end Go.Proofs.Y