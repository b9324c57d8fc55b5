/- The law ExprCongruence. -/
import Derived.Test.YtblecjeceecaaaaGreatDoorPF12
set_option linter.all false
set_option maxHeartbeats 2000000
set_option maxRecDepth 20000
namespace Go.Proofs.Y
open Go Go.Vc Go.Dig
attribute [local irreducible] Vc.Fn FnP
theorem aC4(h:aA)(tb:Tb h)(pw:Pw h)(t:Tr)(vs:List Value)(w:IsE h vs t)(u:Tr)(us:List Value)(w2:IsE h us u)(y:Tr)(ys:List Value)(w3:IsE h ys y):Fn0 T F.q4 [.agg vs.toArray,.agg us.toArray,.agg ys.toArray] h fun v h'=>v=.bool true:=by
 have c1:=fun h tb pw w w2=>eU t u h vs us tb pw w w2
 have c2:=fun h tb pw w w2=>eU u y h us ys tb pw w w2
 have c3:=fun h tb pw w w2=>eU t y h vs ys tb pw w w2
 have c4:=fun h tb pw w w2=>eU t t h vs vs tb pw w w2
 have c5:=fun h tb pw w w2=>eU u t h us vs tb pw w w2
 have c9:=fun h tb pw=>uA h tb pw
 have eqv:=@aNe t u y;obtain⟨⟨X1,X2⟩,hX⟩:=AH (dI t u);obtain⟨⟨Y1,Y2⟩,hY⟩:=AH (dI u y);obtain⟨⟨Z1,Z2⟩,hZ⟩:=AH (dI t y);rw[<-hX,<-hY,<-hZ] at eqv;dsimp only at eqv;simp only[<-hX] at c1;simp only[<-hY] at c2;simp only[<-hZ] at c3;obtain⟨⟨o1,g1,e1,l1,m1,i1,ks1⟩,ht⟩:=AH t;obtain⟨a1,b1,z1,hvs,-⟩:=(ht.symm▸w:IsE h vs (.mk o1 g1 e1 l1 m1 i1 ks1)).isK;obtain⟨⟨o2,g2,e2,l2,m2,i2,ks2⟩,hu⟩:=AH u;obtain⟨a2,b2,z2,hus,-⟩:=(hu.symm▸w2:IsE h us (.mk o2 g2 e2 l2 m2 i2 ks2)).isK;obtain⟨⟨o3,g3,e3,l3,m3,i3,ks3⟩,hy⟩:=AH y;obtain⟨a3,b3,z3,hys,-⟩:=(hy.symm▸w3:IsE h ys (.mk o3 g3 e3 l3 m3 i3 ks3)).isK;subst hvs;subst hus;subst hys;clear ht hu hy hX hY hZ;by_cases h0:X2=0/\Y2=0/\Z2=0
 .obtain⟨q1,q2,q3⟩:=eqv h0.1 h0.2.1 h0.2.2;obtain⟨h1,h2,h3⟩:=h0;simp only[q1] at c4;simp only[q2] at c5;clear q1 q2 eqv;replace q3:=Hq.mk q3;refine f0C ok D.q4 rfl ?_;conv=>whnf
  repeat' first|((first|(show LdN _ _ _ _ _;first|refine LdN.oA 0 rfl rfl ?_|refine LdN.oA 1 rfl rfl ?_|refine LdN.oA 2 rfl rfl ?_)|(show CN _ _ _ _ _ _;first|(refine CN.f rfl (c1 _ Ab (pw.mono Ad) (w.mono Ad) (w2.mono Ad)) (fun v h' hl hr=>?_);subst hr)|(refine CN.f rfl (c2 _ Af (pw.mono Ab) (w2.mono Ab) (w3.mono Ab)) (fun v h' hl hr=>?_);subst hr)|(refine CN.f rfl (c3 _ Af (pw.mono Ac) (w.mono Ac) (w3.mono Ac)) (fun v h' hl hr=>?_);subst hr)|(refine CN.f rfl (c4 _ Af (pw.mono Ac) (w.mono Ac) (w.mono Ac)) (fun v h' hl hr=>?_);subst hr)|(refine CN.f rfl (c5 _ Af (pw.mono Ac) (w2.mono Ac) (w.mono Ac)) (fun v h' hl hr=>?_);subst hr)|(refine CN.f rfl (c9 _ Af (pw.mono Ac)) (fun v h' hl hr=>?_);subst hr))|((first|apply oI.z|apply cI.z))|intro (_:Nat))<;>conv=>whnf)|(show cnd _ _ _;first|(apply aD<;>intro _<;>first|(exfalso;omega)|conv=>whnf)|(refine aI ?_)|(refine wF (fun _=>?_) (fun hne=>?_)<;>first|exact absurd rfl hne|(conv=>whnf))|(refine bO (fun hb=>?_) (fun hb=>?_)<;>(first|cases hb|subst hb)<;>(conv=>whnf)))
  all_goals first|exact RN.a rfl|exact RN.a (congrArg Value.bool (q3.out rfl rfl))
 .clear c4 c5 eqv;refine f0C ok D.q4 rfl ?_;conv=>whnf
  repeat' first|((first|(show LdN _ _ _ _ _;first|refine LdN.oA 0 rfl rfl ?_|refine LdN.oA 1 rfl rfl ?_|refine LdN.oA 2 rfl rfl ?_)|(show CN _ _ _ _ _ _;first|(refine CN.f rfl (c1 _ Ab (pw.mono Ad) (w.mono Ad) (w2.mono Ad)) (fun v h' hl hr=>?_);subst hr)|(refine CN.f rfl (c2 _ Af (pw.mono Ab) (w2.mono Ab) (w3.mono Ab)) (fun v h' hl hr=>?_);subst hr)|(refine CN.f rfl (c3 _ Af (pw.mono Ac) (w.mono Ac) (w3.mono Ac)) (fun v h' hl hr=>?_);subst hr)|(refine CN.f rfl (c9 _ Af (pw.mono Ac)) (fun v h' hl hr=>?_);subst hr))|((first|apply oI.z|apply cI.z))|intro (_:Nat))<;>conv=>whnf)|(show cnd _ _ _;first|(apply aD<;>intro _<;>first|(exfalso;omega)|conv=>whnf)|(refine aI ?_))
  all_goals exact RN.a rfl
end Go.Proofs.Y