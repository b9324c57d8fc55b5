/- The law ExprRing. -/
import Derived.Test.YtblecjeceecaaaaGreatDoorPF12
set_option linter.all false
set_option maxHeartbeats 4000000
set_option maxRecDepth 20000
namespace Go.Proofs.Y
open Go Go.Vc Go.Dig
theorem lI(op:Int)(ho:-9223372036854775808<=op/\op<=9223372036854775807)(t u:Tr)(h:aA)(vs us:List Value)(w:IsE h vs t)(w':IsE h us u):Fn0 T F.q15 [.int .i64 op,.agg vs.toArray,.agg us.toArray] h fun v h'=>VE h' v (aG op 0 [t,u]):=by
 obtain⟨⟨op0,arg,neg,l,m,name,ks⟩,ht⟩:=AH t;obtain⟨a,b,s,hvs,-⟩:=(ht.symm▸w:IsE h vs (.mk op0 arg neg l m name ks)).isK;obtain⟨⟨op1,arg1,neg1,l1,m1,name1,ks1⟩,hu⟩:=AH u;obtain⟨a1,b1,s1,hus,-⟩:=(hu.symm▸w':IsE h us (.mk op1 arg1 neg1 l1 m1 name1 ks1)).isK;subst hvs hus;refine f0C ok D.q15 rfl ?_;conv=>whnf
 repeat' ((first|((first|apply oI.z|apply cI.z))|intro (_:Nat)|(show LdN _ _ _ _ _;first|refine LdN.o 1 rfl rfl ?_|refine LdN.o 2 rfl rfl ?_)|refine Sto.l 1 rfl rfl rfl ?_)<;>conv=>whnf)
 exact RN.keep 0 rfl fun hle=>RN.a (VE.node ho Ae (IsK.two w w' rfl rfl hle))
attribute [local irreducible] Vc.Fn FnP
theorem tJ(t u:Tr)(h:aA)(vs us:List Value)(tb:Tb h)(pw:Pw h)(w:IsE h vs t)(w2:IsE h us u)(hr:unP t=unP u):Fn0 T F.q16 [.agg vs.toArray,.agg us.toArray] h fun v h'=>v=.bool true:=by
 have c1:=fun h tb pw w w2=>eU t u h vs us tb pw w w2
 have al:=aKh hr;unfold aHh at al;obtain⟨⟨X1,X2⟩,hX⟩:=AH (dI t u);simp only[<-hX] at c1 al;clear hX hr;have a2:X2=0->X1=true:=fun e=>by simpa[e] using al
 clear al;obtain⟨⟨o1,g1,e1,l1,m1,i1,ks1⟩,ht⟩:=AH t;obtain⟨a1,b1,z1,hvs,-⟩:=(ht.symm▸w:IsE h vs (.mk o1 g1 e1 l1 m1 i1 ks1)).isK;obtain⟨⟨o2,g2,e2,l2,m2,i2,ks2⟩,hu⟩:=AH u;obtain⟨a2',b2,z2,hus,-⟩:=(hu.symm▸w2:IsE h us (.mk o2 g2 e2 l2 m2 i2 ks2)).isK;subst hvs;subst hus;clear ht hu;refine f0C ok D.q16 rfl ?_;conv=>whnf
 repeat' first|((first|(show LdN _ _ _ _ _;first|refine LdN.oA 0 rfl rfl ?_|refine LdN.oA 1 rfl rfl ?_)|(show CN _ _ _ _ _ _;(refine CN.f rfl (c1 _ Ab (pw.mono Ad) (w.mono Ad) (w2.mono Ad)) (fun v h' hl hr=>?_);subst hr))|((first|apply oI.z|apply cI.z))|intro (_:Nat))<;>conv=>whnf)|(show cnd _ _ _;first|(apply aD<;>intro _<;>first|(exfalso;omega)|conv=>whnf)|(refine aI ?_))
 all_goals first
  | exact RN.a rfl
  | exact RN.a (congrArg Value.bool (a2 Aa))
theorem aXz(h:aA)(tb:Tb h)(pw:Pw h)(t:Tr)(vs:List Value)(w:IsE h vs t)(u:Tr)(us:List Value)(w2:IsE h us u)(y:Tr)(ys:List Value)(w3:IsE h ys y):Fn0 T F.q5 [.agg vs.toArray,.agg us.toArray,.agg ys.toArray] h fun v h'=>v=.bool true:=by
 have v1:=fun h w=>lR t h vs w
 have v2:=fun h w=>lR u h us w
 have v3:=fun h w=>lR y h ys w
 have c9:=fun h tb pw=>uA h tb pw
 obtain⟨⟨o1,g1,e1,l1,m1,i1,ks1⟩,ht⟩:=AH t;obtain⟨a1,b1,z1,hvs,-⟩:=(ht.symm▸w:IsE h vs (.mk o1 g1 e1 l1 m1 i1 ks1)).isK;obtain⟨⟨o2,g2,e2,l2,m2,i2,ks2⟩,hu⟩:=AH u;obtain⟨a2,b2,z2,hus,-⟩:=(hu.symm▸w2:IsE h us (.mk o2 g2 e2 l2 m2 i2 ks2)).isK;obtain⟨⟨o3,g3,e3,l3,m3,i3,ks3⟩,hy⟩:=AH y;obtain⟨a3,b3,z3,hys,-⟩:=(hy.symm▸w3:IsE h ys (.mk o3 g3 e3 l3 m3 i3 ks3)).isK;subst hvs;subst hus;subst hys;clear ht hu hy;refine f0C ok D.q5 rfl ?_;conv=>whnf
 repeat' first|((first|(show LdN _ _ _ _ _;first|refine LdN.oA 0 rfl rfl ?_|refine LdN.oA 1 rfl rfl ?_|refine LdN.oA 2 rfl rfl ?_|refine LdN.oA 3 rfl rfl ?_|refine LdN.oA 4 rfl rfl ?_|refine LdN.oA 5 rfl rfl ?_|refine LdN.oA 6 rfl rfl ?_|refine LdN.oA 7 rfl rfl ?_)|(show CN _ _ _ _ _ _;first|(refine CN.f rfl (v1 _ (w.mono Ad)) (fun v h' hl hr=>?_);subst hr)|(refine CN.f rfl (v2 _ (w2.mono Ab)) (fun v h' hl hr=>?_);subst hr)|(refine CN.f rfl (v3 _ (w3.mono Ac)) (fun v h' hl hr=>?_);subst hr)|(refine CN.f rfl (c9 _ Af (pw.mono Ac)) (fun v h' hl hr=>?_);subst hr)|(refine CN.f rfl (lI 7 Ae t u _ _ _ (w.mono Ac) (w2.mono Ac)) (fun v h' hl hr=>?_);obtain⟨opAB,arAB,ngAB,nnAB,ddAB,nmAB,ssAB,rfl,hAB⟩:=hr)|(refine CN.f rfl (lI 7 Ae u y _ _ _ (w2.mono Ac) (w3.mono Ac)) (fun v h' hl hr=>?_);obtain⟨opBC,arBC,ngBC,nnBC,ddBC,nmBC,ssBC,rfl,hBC⟩:=hr)|(refine CN.f rfl (lI 5 Ae u y _ _ _ (w2.mono Ac) (w3.mono Ac)) (fun v h' hl hr=>?_);obtain⟨opSM,arSM,ngSM,nnSM,ddSM,nmSM,ssSM,rfl,hSM⟩:=hr)|(refine CN.f rfl (lI 7 Ae u t _ _ _ (w2.mono Ac) (w.mono Ac)) (fun v h' hl hr=>?_);obtain⟨opBA,arBA,ngBA,nnBA,ddBA,nmBA,ssBA,rfl,hBA⟩:=hr)|(refine CN.f rfl (tJ (aG 7 0 [t,u]) (aG 7 0 [u,t]) _ _ _ Af (pw.mono Ac) (hAB.mono Ac) (hBA.mono Ad) (aRr t u)) (fun v h' hl hr=>?_);subst hr)|(refine CN.f rfl (lI 7 Ae (aG 7 0 [t,u]) y _ _ _ (hAB.mono Ac) (w3.mono Ac)) (fun v h' hl hr=>?_);obtain⟨opX1,arX1,ngX1,nnX1,ddX1,nmX1,ssX1,rfl,hX1⟩:=hr)|(refine CN.f rfl (lI 7 Ae t (aG 7 0 [u,y]) _ _ _ (w.mono Ac) (hBC.mono Ac)) (fun v h' hl hr=>?_);obtain⟨opX2,arX2,ngX2,nnX2,ddX2,nmX2,ssX2,rfl,hX2⟩:=hr)|(refine CN.f rfl (tJ (aG 7 0 [(aG 7 0 [t,u]),y]) (aG 7 0 [t,(aG 7 0 [u,y])]) _ _ _ Af (pw.mono Ac) (hX1.mono Ab) (hX2.mono Ad) (aNd t u y)) (fun v h' hl hr=>?_);subst hr)|(refine CN.f rfl (lI 7 Ae t (aG 5 0 [u,y]) _ _ _ (w.mono Ac) (hSM.mono Ac)) (fun v h' hl hr=>?_);obtain⟨opY1,arY1,ngY1,nnY1,ddY1,nmY1,ssY1,rfl,hY1⟩:=hr)|(refine CN.f rfl (lI 7 Ae t y _ _ _ (w.mono Ac) (w3.mono Ac)) (fun v h' hl hr=>?_);obtain⟨opY2,arY2,ngY2,nnY2,ddY2,nmY2,ssY2,rfl,hY2⟩:=hr)|(refine CN.f rfl (lI 5 Ae (aG 7 0 [t,u]) (aG 7 0 [t,y]) _ _ _ (hAB.mono Ac) (hY2.mono Ad)) (fun v h' hl hr=>?_);obtain⟨opY3,arY3,ngY3,nnY3,ddY3,nmY3,ssY3,rfl,hY3⟩:=hr)|(refine CN.f rfl (tJ (aG 7 0 [t,(aG 5 0 [u,y])]) (aG 5 0 [(aG 7 0 [t,u]),(aG 7 0 [t,y])]) _ _ _ Af (pw.mono Ac) (hY1.mono Ac) (hY3.mono Ad) (aRs t u y)) (fun v h' hl hr=>?_);subst hr))|((first|apply oI.z|apply cI.z))|refine⟨fun _=>aJ.o Ab,?_⟩|refine⟨fun _=>aJ.cons _,?_⟩|refine⟨fun hst=>(by cases (show true=false from hst)),?_⟩|intro (_:Nat)|(show Sto _ _ _ _;first|refine Sto.l 0 rfl rfl rfl ?_|refine Sto.l 1 rfl rfl rfl ?_)|refine DrN.run Ak ?_)<;>conv=>whnf)|(show cnd _ _ _;first|(refine aI ?_)|(apply aU<;>intro _<;>first|(exfalso;omega)|conv=>whnf))|(refine rY.mk ?_ ?_<;>(conv=>whnf))
 all_goals first
  | exact RN.a rfl
  | skip
 all_goals (
   refine CN.keep 1 rfl rfl (fun hl5=>?_)
   have hNG:=IsE.node (op:=4) (arg:=0) Ae Ae (IsK.one (w2.mono Ac) rfl hl5);refine CN.f rfl (lI 6 Ae t u _ _ _ (w.mono Ac) (w2.mono Ac)) (fun v h' hl6 hr=>?_)
   obtain⟨opZ1,arZ1,ngZ1,nnZ1,ddZ1,nmZ1,ssZ1,rfl,hZ1⟩:=hr;conv=>whnf
   refine⟨fun _=>aJ.keep (n:=1) rfl hl5 hl6,?_⟩
   conv=>whnf
   repeat' ((first|(show LdN _ _ _ _ _;first|refine LdN.oA 1 rfl rfl ?_|refine LdN.oA 4 rfl rfl ?_|refine LdN.oA 5 rfl rfl ?_|refine LdN.oA 6 rfl rfl ?_)|(show CN _ _ _ _ _ _;first|(refine CN.f rfl (c9 _ Af (pw.mono Ac)) (fun v h' hl hr=>?_);subst hr)|(refine CN.f rfl (lI 5 Ae t (aG 4 0 [u]) _ _ _ (w.mono Ac) (hNG.mono Ab)) (fun v h' hl hr=>?_);obtain⟨opZ2,arZ2,ngZ2,nnZ2,ddZ2,nmZ2,ssZ2,rfl,hZ2⟩:=hr)|(refine CN.f rfl (tJ (aG 6 0 [t,u]) (aG 5 0 [t,(aG 4 0 [u])]) _ _ _ Af (pw.mono Ac) (hZ1.mono Ab) (hZ2.mono Ad) (aWx t u 0)) (fun v h' hl hr=>?_);subst hr)|(refine CN.f rfl (lI 5 Ae (aG 5 0 [u,y]) t _ _ _ (hSM.mono Ac) (w.mono Ac)) (fun v h' hl hr=>?_);obtain⟨opZ3,arZ3,ngZ3,nnZ3,ddZ3,nmZ3,ssZ3,rfl,hZ3⟩:=hr)|(refine CN.f rfl (lI 5 Ae y t _ _ _ (w3.mono Ac) (w.mono Ac)) (fun v h' hl hr=>?_);obtain⟨opZ4,arZ4,ngZ4,nnZ4,ddZ4,nmZ4,ssZ4,rfl,hZ4⟩:=hr)|(refine CN.f rfl (lI 5 Ae u (aG 5 0 [y,t]) _ _ _ (w2.mono Ac) (hZ4.mono Ad)) (fun v h' hl hr=>?_);obtain⟨opZ5,arZ5,ngZ5,nnZ5,ddZ5,nmZ5,ssZ5,rfl,hZ5⟩:=hr)|(refine CN.f rfl (tJ (aG 5 0 [(aG 5 0 [u,y]),t]) (aG 5 0 [u,(aG 5 0 [y,t])]) _ _ _ Af (pw.mono Ac) (hZ3.mono Ac) (hZ5.mono Ad) (aWy t u y)) (fun v h' hl hr=>?_);subst hr))|((first|apply oI.z|apply cI.z))|refine⟨fun _=>aJ.o Ab,?_⟩|fail)<;>conv=>whnf)
   exact RN.a rfl)
end Go.Proofs.Y