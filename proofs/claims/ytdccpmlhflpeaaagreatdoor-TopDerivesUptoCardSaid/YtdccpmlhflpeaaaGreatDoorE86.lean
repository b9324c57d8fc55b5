/- Derivatives: the program's side. -/
import Derived.Test.YtdccpmlhflpeaaaGreatDoorE76
import Derived.Test.YtdccpmlhflpeaaaGreatDoorPG1
set_option linter.all false
set_option maxHeartbeats 4000000
set_option maxRecDepth 20000
namespace Go.Proofs.Y
open Go Go.Vc Go.Dig
theorem aHz(op arg:Int)(ho:-9223372036854775808<=op/\op<=9223372036854775807)(ha:-9223372036854775808<=arg/\arg<=9223372036854775807){h:aA}{b:Nat}{T0:TypeId}{fz:Nat × Nat}{a1 a2 a3 a4 a5 a6 a7:Value}{t:Tr}(i:IsE h [a1,a2,a3,a4,a5,a6,a7] t)(hle:h.le (h.put b (.cells #[a1,a2,a3,a4,a5,a6,a7] T0 fz))):
  Fn0 T F.q94 [.int .i64 op,.int .i64 arg,.slice (some ⟨b,0,none⟩) 1 1] (h.put b (.cells #[a1,a2,a3,a4,a5,a6,a7] T0 fz)) fun v h'=>VE h' v (aF op arg [t]):=
 lG op arg ho ha [t] ⟨some ⟨b,0,none⟩,1,1⟩ _ (IsK.one i rfl hle)
theorem gZ(op arg:Int)(ho:-9223372036854775808<=op/\op<=9223372036854775807)(ha:-9223372036854775808<=arg/\arg<=9223372036854775807){h:aA}{b:Nat}{T0:TypeId}{fz:Nat × Nat}{a1 a2 a3 a4 a5 a6 a7 c1 c2 c3 c4 c5 c6 c7:Value}{t u:Tr}(i:IsE h [a1,a2,a3,a4,a5,a6,a7] t)(j:IsE h [c1,c2,c3,c4,c5,c6,c7] u)
  (hle:h.le (h.put b (.cells #[a1,a2,a3,a4,a5,a6,a7,c1,c2,c3,c4,c5,c6,c7] T0 fz))):Fn0 T F.q94 [.int .i64 op,.int .i64 arg,.slice (some ⟨b,0,none⟩) 2 2] (h.put b (.cells #[a1,a2,a3,a4,a5,a6,a7,c1,c2,c3,c4,c5,c6,c7] T0 fz)) fun v h'=>VE h' v (aF op arg [t,u]):=
 lG op arg ho ha [t,u] ⟨some ⟨b,0,none⟩,2,2⟩ _ (IsK.two i j rfl rfl hle)
attribute [local irreducible] Vc.Fn
theorem xH(k u:Tr)(arg:Int)(ha1:-32<=arg)(ha2:arg<=32)(neg:Bool)(l m name:List Nat)(h:aA)(vs us2:List Value)(w:IsE h vs (.mk 9 arg neg l m name [k]))(w2:IsE h us2 u):Fn0 T F.q95 [.agg vs.toArray,.agg us2.toArray] h fun v h'=>VE h' v (aBi (.mk 9 arg neg l m name [k]) arg k u):=by
 obtain⟨a,b,s,rfl,ho,ha,hv,hb,hk⟩:=w.isK;obtain⟨⟨tp2,ta2,tg2,tl2,tm2,tn2,tk2⟩,hu2⟩:=AB u;obtain⟨a2,b2,s2,hus2,-⟩:=(hu2.symm▸w2:IsE h us2 (.mk tp2 ta2 tg2 tl2 tm2 tn2 tk2)).isK;subst hus2;clear hu2;have hkl:s.l=1:=hk.len;obtain⟨bl1,off1,op1,ar1,ng1,nn1,dd1,nm1,ss1,hE1,hld1,hln1,hix1⟩:=hk.kidP 0 _ rfl;have w0:=fun h=>jN h 0 Ad Ad
 simp only[vF] at w0;have wN:=fun h=>jN h arg Aa Aa
 obtain⟨Q,hQ⟩:=AB (arg:Rat);simp only[<-hQ] at wN;unfold aBi;rw[<-hQ];clear hQ;by_cases h0:arg=0
 .rw[if_pos h0];refine f0C ok D.q95 rfl ?_;conv=>whnf
  repeat' ((first|(show LdN _ _ _ _ _;refine LdN.oA 0 rfl rfl ?_)|(show CN _ _ _ _ _ _;(refine CN.f rfl (w0 _) (fun v h' hl2 hr=>?_);obtain⟨op8,ar8,ng8,nn8,dd8,nm8,ss8,rfl,hE8⟩:=hr))|((first|apply oI.z|apply cI.z))|intro (_:Nat)|refine Ld.o 2 rfl rfl ?_|refine Sto.l 0 rfl rfl rfl ?_|(apply aD<;>intro _<;>try (exfalso;omega)))<;>conv=>whnf)
  all_goals exact RN.a ⟨_,_,_,_,_,_,_,rfl,Ab⟩
 rw[if_neg h0];refine f0C ok D.q95 rfl ?_;conv=>whnf
 repeat' first|((first|refine Ld.o 2 rfl rfl ?_)<;>conv=>whnf)|(refine cI.stop 4 ?_)|((first|apply oI.z|apply cI.z);conv=>whnf)|(intro (_:Nat);conv=>whnf)|(apply aD<;>intro _<;>first|(exfalso;omega)|conv=>whnf)
 rename_i bb2 bb3 bb4 x0;refine⟨aQ.cut (fun ρ hx Lx=>∃(b6:Nat) (op6 ar6:Int) (ng6:Bool) (nn6 dd6:Sl) (nm6:List Nat) (ss6:Sl),rd ρ 6=.pointer (some ⟨b6,0,none⟩)/\h.le hx/\Lx=[(b6,.cells [.int .i64 op6,.int .i64 ar6,.bool ng6,nn6.val,dd6.val,.string (txt nm6),ss6.val].toArray Ty.api_Expr (0,0)),(bb4,.cells [.int .i64 0,.int .i64 0,.bool false,.slice none 0 0,.slice none 0 0,.string ByteArray.empty,.slice none 0 0].toArray Ty.api_Expr (0,0)),(bb3,.cells [.int .i64 tp2,.int .i64 ta2,.bool tg2,a2.val,b2.val,.string (txt tn2),s2.val].toArray Ty.api_Expr (0,0)),(bb2,.cells [.int .i64 9,.int .i64 arg,.bool neg,a.val,b.val,.string (txt name),s.val].toArray Ty.api_Expr (0,0))]/\IsE hx [.int .i64 op6,.int .i64 ar6,.bool ng6,nn6.val,dd6.val,.string (txt nm6),ss6.val] (aF 8 0 [.mk 9 arg neg l m name [k],k])) ?_ ?_⟩
 .conv=>whnf
  repeat ((first|apply oI.z|apply cI.z);conv=>whnf)
  repeat' first|((first|(show LdN _ _ _ _ _;first|refine LdN.oA 2 rfl rfl ?_|(refine LdN.hasN [.int .i64 op1,.int .i64 ar1,.bool ng1,nn1.val,dd1.val,.string (txt nm1),ss1.val] rfl (fun i v hv=>hld1 _ _ i v Af hv) ?_))|refine hix1 _ _ rfl ?_|refine⟨fun _=>aH.cons _,?_⟩|refine⟨fun hst=>(by cases (show true=false from hst)),?_⟩|intro (_:Nat)|refine Ld.o 2 rfl rfl ?_|refine Sto.l 0 rfl rfl rfl ?_|refine DrN.run Al ?_)<;>conv=>whnf)|(show CN _ _ _ _ _ _;first|(refine CN.keep 0 rfl rfl (fun hl5=>?_);refine CN.f rfl (gZ _ _ Am Am (IsE.mono Ab Af) (IsE.mono Ab Af) hl5) (fun v h' hl2 hr=>?_);obtain⟨op9,ar9,ng9,nn9,dd9,nm9,ss9,rfl,hE9⟩:=hr;first|(refine⟨fun _=>aH.keep (n:=0) rfl hl5 hl2,?_⟩;conv=>whnf)|(conv=>whnf))|(refine CN.keep 1 rfl rfl (fun hl5=>?_);refine CN.f rfl (gZ _ _ Am Am (IsE.mono Ab Af) (IsE.mono Ab Af) hl5) (fun v h' hl2 hr=>?_);obtain⟨op9,ar9,ng9,nn9,dd9,nm9,ss9,rfl,hE9⟩:=hr;first|(refine⟨fun _=>aH.keep (n:=1) rfl hl5 hl2,?_⟩;conv=>whnf)|(conv=>whnf)))|(refine sS.mk ?_ ?_<;>(conv=>whnf))
  all_goals exact⟨rfl,_,op9,ar9,ng9,nn9,dd9,nm9,ss9,rfl,Ac,rfl,Ab⟩
 conv=>whnf
 repeat intro _
 rename_i h4 L4 hJ;obtain⟨b6,op6,ar6,ng6,nn6,dd6,nm6,ss6,e6,hle4,rfl,hE6⟩:=hJ;conv at e6=>lhs;whnf
 subst e6;by_cases h1:-32<arg
 .rw[if_pos h1];conv=>whnf
  repeat' first|((first|(apply aQ.go)|(show LdN _ _ _ _ _;first|refine LdN.oA 0 rfl rfl ?_|refine LdN.oA 1 rfl rfl ?_|refine LdN.oA 2 rfl rfl ?_|refine LdN.hasN [.int .i64 op1,.int .i64 ar1,.bool ng1,nn1.val,dd1.val,.string (txt nm1),ss1.val] rfl (fun i v hv=>hld1 _ _ i v Ab hv) ?_)|refine hix1 _ _ rfl ?_|((first|apply oI.z|apply cI.z))|refine⟨fun _=>aH.o Ab,?_⟩|refine⟨fun _=>aH.cons _,?_⟩|refine⟨fun hst=>(by cases (show true=false from hst)),?_⟩|intro (_:Nat)|refine WN.i64 Aa Aa ?_|refine Ld.o 3 rfl rfl ?_|(show Sto _ _ _ _;first|refine Sto.l 0 rfl rfl rfl ?_|refine Sto.l 1 rfl rfl rfl ?_)|refine DrN.run Al ?_)<;>conv=>whnf)|(show CN _ _ _ _ _ _;first|(refine CN.keep 0 rfl rfl (fun hl5=>?_);refine CN.f rfl (aHz _ _ Am Am (IsE.mono Ab Ab) hl5) (fun v h' hl2 hr=>?_);obtain⟨op9,ar9,ng9,nn9,dd9,nm9,ss9,rfl,hE9⟩:=hr;first|(refine⟨fun _=>aH.keep (n:=0) rfl hl5 hl2,?_⟩;conv=>whnf)|(conv=>whnf))|(refine CN.keep 0 rfl rfl (fun hl5=>?_);refine CN.f rfl (gZ _ _ Am Am (IsE.mono Ab Af) (IsE.mono Ab Ac) hl5) (fun v h' hl2 hr=>?_);obtain⟨op9,ar9,ng9,nn9,dd9,nm9,ss9,rfl,hE9⟩:=hr;first|(refine⟨fun _=>aH.keep (n:=0) rfl hl5 hl2,?_⟩;conv=>whnf)|(conv=>whnf))|(refine CN.f rfl (wN _) (fun v h' hl2 hr=>?_);obtain⟨op8,ar8,ng8,nn8,dd8,nm8,ss8,rfl,hE8⟩:=hr;conv=>whnf))|(apply aB<;>intro _<;>first|(exfalso;omega)|conv=>whnf)
  all_goals exact RN.a ⟨_,_,_,_,_,_,_,rfl,Ab⟩
 .rw[if_neg h1];conv=>whnf
  repeat' first|((first|(apply aQ.go)|(show LdN _ _ _ _ _;first|refine LdN.oA 0 rfl rfl ?_|refine LdN.oA 1 rfl rfl ?_|refine LdN.oA 2 rfl rfl ?_)|((first|apply oI.z|apply cI.z))|refine⟨fun _=>aH.o Ab,?_⟩|refine⟨fun _=>aH.cons _,?_⟩|refine⟨fun hst=>(by cases (show true=false from hst)),?_⟩|intro (_:Nat)|refine Sto.l 1 rfl rfl rfl ?_|refine DrN.run Al ?_)<;>conv=>whnf)|(show CN _ _ _ _ _ _;first|(refine CN.keep 0 rfl rfl (fun hl5=>?_);refine CN.f rfl (gZ _ _ Am Am (IsE.mono Ab Af) (IsE.mono Ab Ac) hl5) (fun v h' hl2 hr=>?_);obtain⟨op9,ar9,ng9,nn9,dd9,nm9,ss9,rfl,hE9⟩:=hr;first|(refine⟨fun _=>aH.keep (n:=0) rfl hl5 hl2,?_⟩;conv=>whnf)|(conv=>whnf))|(refine CN.f rfl (wN _) (fun v h' hl2 hr=>?_);obtain⟨op8,ar8,ng8,nn8,dd8,nm8,ss8,rfl,hE8⟩:=hr;conv=>whnf))|(apply aB<;>intro _<;>first|(exfalso;omega)|conv=>whnf)
  all_goals exact RN.a ⟨_,_,_,_,_,_,_,rfl,Ab⟩
theorem aKc(nm:List Nat)(hnm:∀y∈nm,y<256):∀t:Tr,∀(h:aA) (vs:List Value),IsE h vs t->okG t->smT t->aZ t->Fn0 T F.q52 [.agg vs.toArray,.string (txt nm)] h fun v h'=>VE h' v (eS id nm t):=by
 refine bN fun t ih=>?_
 intro h vs w hok hsm hp;obtain⟨op,arg,neg,l,m,name,ks⟩:=t;obtain⟨a,b,s,rfl,ho,ha,hv,hb,hk⟩:=w.isK;rw[okG] at hok;obtain⟨hnb,hoks⟩:=hok;rw[smT] at hsm;obtain⟨hs1,hs2⟩:=hsm;have kn:=aG9 hnb hs1;obtain⟨-,n2,n3,-,-⟩:=hnb;have w0:=fun h=>jN h 0 Ad Ad
 simp only[vF] at w0;have w1:=fun h=>jN h 1 Ad Ad
 simp only[aCv] at w1;rw[aZ] at hp;obtain⟨hpo,hpk⟩:=hp;rw[eS];rcases kn with rfl|rfl|rfl|⟨rfl|rfl|rfl|rfl,hn1⟩|⟨rfl|rfl|rfl|rfl,hn2⟩
 .rw[if_pos Ad];refine f0C ok D.q52 rfl ?_;conv=>whnf
  repeat' ((first|(apply aQ.go)|(show LdN _ _ _ _ _;refine LdN.oA 0 rfl rfl ?_)|(show CN _ _ _ _ _ _;(refine CN.f rfl (w0 _) (fun v h' hl2 hr=>?_);obtain⟨op8,ar8,ng8,nn8,dd8,nm8,ss8,rfl,hE8⟩:=hr))|((first|apply oI.z|apply cI.z))|intro (_:Nat)|refine Ld.o 1 rfl rfl ?_|refine Sto.l 0 rfl rfl rfl ?_|(apply aD<;>intro _<;>try (exfalso;omega)))<;>conv=>whnf)
  all_goals exact RN.a ⟨_,_,_,_,_,_,_,rfl,Ab⟩
 .rw[if_neg Ad,if_pos rfl];refine f0C ok D.q52 rfl ?_;conv=>whnf
  repeat' first|((first|(apply aQ.go)|(show LdN _ _ _ _ _;refine LdN.oA 0 rfl rfl ?_)|(show CN _ _ _ _ _ _;first|(refine CN.f rfl (w0 _) (fun v h' hl2 hr=>?_);obtain⟨op8,ar8,ng8,nn8,dd8,nm8,ss8,rfl,hE8⟩:=hr)|(refine CN.f rfl (w1 _) (fun v h' hl2 hr=>?_);obtain⟨op8,ar8,ng8,nn8,dd8,nm8,ss8,rfl,hE8⟩:=hr))|((first|apply oI.z|apply cI.z))|intro (_:Nat)|refine Ld.o 1 rfl rfl ?_|refine Sto.l 0 rfl rfl rfl ?_)<;>conv=>whnf)|(show cnd _ _ _;first|(refine nI hb hnm (fun _=>?_) (fun _=>?_)<;>(conv=>whnf))|(apply aD<;>intro _<;>first|(exfalso;omega)|conv=>whnf))
  all_goals first
   | (rw[if_pos Ab];exact RN.a ⟨_,_,_,_,_,_,_,rfl,Ab⟩)
   | (rw[if_neg Ab];exact RN.a ⟨_,_,_,_,_,_,_,rfl,Ab⟩)
 .exact absurd hpo Aa
 .obtain⟨k,rfl⟩:∃k,ks=[k]:=by
   match ks,hn1 with
   | [k],_=>exact⟨k,rfl⟩
  rw[cA] at hoks;rw[bK] at hpk;rw[tL] at hs2;obtain⟨bl1,off1,op1,ar1,ng1,nn1,dd1,nm1,ss1,hE1,hld1,hln1,hix1⟩:=hk.kidP 0 _ rfl;have e1:=fun h vs w=>ih k (aP (j:=0) rfl) h vs w hoks.1 hs2.1 hpk.1
  rw[if_neg Ad,if_neg Ad,dV,dV,sP];show Fn0 T _ _ _ fun v h'=>VE h' v (aF 4 0 [eS id nm k])
  obtain⟨D1,hD1⟩:=AB (eS id nm k);simp only[<-hD1] at e1 ⊢;clear hD1;have hkl:s.l=1:=hk.len;refine f0C ok D.q52 rfl ?_;conv=>whnf
  repeat' first|((first|(apply aQ.go)|(show LdN _ _ _ _ _;first|refine LdN.oA 0 rfl rfl ?_|refine LdN.oA 2 rfl rfl ?_|(refine LdN.hasN [.int .i64 op1,.int .i64 ar1,.bool ng1,nn1.val,dd1.val,.string (txt nm1),ss1.val] rfl (fun i v hv=>hld1 _ _ i v Af hv) ?_))|refine hix1 _ _ rfl ?_|((first|apply oI.z|apply cI.z))|intro (_:Nat)|(show Ld _ _ _ _;first|refine Ld.o 1 rfl rfl ?_|refine Ld.o 3 rfl rfl ?_)|(show Sto _ _ _ _;first|refine Sto.l 0 rfl rfl rfl ?_|refine Sto.l 2 rfl rfl rfl ?_))<;>conv=>whnf)|(show CN _ _ _ _ _ _;first|(refine CN.f rfl (e1 _ _ (hE1.mono Af)) (fun v h' hl2 hr=>?_);obtain⟨op3,ar3,ng3,nn3,dd3,nm3,ss3,rfl,hE3⟩:=hr;conv=>whnf)|(refine CN.keep 0 rfl rfl (fun hl5=>?_);refine CN.f rfl (aHz _ _ Am Am (IsE.mono Ab Af) hl5) (fun v h' hl2 hr=>?_);obtain⟨op9,ar9,ng9,nn9,dd9,nm9,ss9,rfl,hE9⟩:=hr;first|(refine⟨fun _=>aH.keep (n:=0) rfl hl5 hl2,?_⟩;conv=>whnf)|(conv=>whnf)))|(apply aD<;>intro _<;>first|(exfalso;omega)|conv=>whnf)
  all_goals exact RN.a ⟨_,_,_,_,_,_,_,rfl,Ab⟩
 .obtain⟨k,rfl⟩:∃k,ks=[k]:=by
   match ks,hn1 with
   | [k],_=>exact⟨k,rfl⟩
  rw[cA] at hoks;rw[bK] at hpk;rw[tL] at hs2;rw[show jP 9=-32 by decide] at n2
  rw[show eO 9=32 by decide] at n3
  have dp:=fun u h vs us2 w w2=>xH k u arg n2 n3 neg l m name h vs us2 w w2
  obtain⟨bl1,off1,op1,ar1,ng1,nn1,dd1,nm1,ss1,hE1,hld1,hln1,hix1⟩:=hk.kidP 0 _ rfl;have e1:=fun h vs w=>ih k (aP (j:=0) rfl) h vs w hoks.1 hs2.1 hpk.1
  rw[if_neg Ad,if_neg Ad,dV,dV,sP];show Fn0 T _ _ _ fun v h'=>VE h' v (aBi (.mk 9 arg neg l m name [k]) arg k (eS id nm k))
  obtain⟨D1,hD1⟩:=AB (eS id nm k);simp only[<-hD1] at e1 ⊢;clear hD1;have hkl:s.l=1:=hk.len;refine f0C ok D.q52 rfl ?_;conv=>whnf
  repeat' ((first|(apply aQ.go)|(show LdN _ _ _ _ _;first|refine LdN.oA 0 rfl rfl ?_|refine LdN.oA 2 rfl rfl ?_|refine LdN.oA 3 rfl rfl ?_|(refine LdN.hasN [.int .i64 op1,.int .i64 ar1,.bool ng1,nn1.val,dd1.val,.string (txt nm1),ss1.val] rfl (fun i v hv=>hld1 _ _ i v Af hv) ?_))|refine hix1 _ _ rfl ?_|((first|apply oI.z|apply cI.z))|intro (_:Nat)|(show CN _ _ _ _ _ _;first|(refine CN.f rfl (e1 _ _ (hE1.mono Af)) (fun v h' hl2 hr=>?_);obtain⟨op3,ar3,ng3,nn3,dd3,nm3,ss3,rfl,hE3⟩:=hr)|(refine CN.f rfl (dp _ _ _ _ (w.mono Ab) hE3) (fun v h' hl2 hr=>?_);obtain⟨op9,ar9,ng9,nn9,dd9,nm9,ss9,rfl,hE9⟩:=hr))|(show Ld _ _ _ _;first|refine Ld.o 1 rfl rfl ?_|refine Ld.o 3 rfl rfl ?_)|(show Sto _ _ _ _;first|refine Sto.l 0 rfl rfl rfl ?_|refine Sto.l 2 rfl rfl rfl ?_)|(apply aD<;>intro _<;>try (exfalso;omega)))<;>conv=>whnf)
  all_goals exact RN.a ⟨_,_,_,_,_,_,_,rfl,Ab⟩
 .exact absurd hpo Aa
 .exact absurd hpo Aa
 .obtain⟨k,k',rfl⟩:∃k k',ks=[k,k']:=by
   match ks,hn2 with
   | [k,k'],_=>exact⟨k,k',rfl⟩
  rw[cA,cA] at hoks;rw[bK,bK] at hpk;rw[tL,tL] at hs2;obtain⟨bl1,off1,op1,ar1,ng1,nn1,dd1,nm1,ss1,hE1,hld1,hln1,hix1⟩:=hk.kidP 0 _ rfl;obtain⟨bl2,off2,op2,ar2,ng2,nn2,dd2,nm2,ss2,hE2,hld2,hln2,hix2⟩:=hk.kidP 1 _ rfl;have e1:=fun h vs w=>ih k (aP (j:=0) rfl) h vs w hoks.1 hs2.1 hpk.1
  have e2:=fun h vs w=>ih k' (aP (j:=1) rfl) h vs w hoks.2.1 hs2.2.1 hpk.2.1
  rw[if_neg Ad,if_neg Ad,dV,dV,dV,sP];show Fn0 T _ _ _ fun v h'=>VE h' v (aF 5 0 [eS id nm k,eS id nm k'])
  obtain⟨D1,hD1⟩:=AB (eS id nm k);obtain⟨D2,hD2⟩:=AB (eS id nm k');simp only[<-hD1] at e1 ⊢;simp only[<-hD2] at e2 ⊢;clear hD1 hD2;have hkl:s.l=2:=hk.len;refine f0C ok D.q52 rfl ?_;conv=>whnf
  repeat' first|((first|(apply aQ.go)|(show LdN _ _ _ _ _;first|refine LdN.oA 0 rfl rfl ?_|refine LdN.oA 2 rfl rfl ?_|refine LdN.oA 4 rfl rfl ?_|(refine LdN.hasN [.int .i64 op1,.int .i64 ar1,.bool ng1,nn1.val,dd1.val,.string (txt nm1),ss1.val] rfl (fun i v hv=>hld1 _ _ i v Af hv) ?_)|refine LdN.hasN [.int .i64 op2,.int .i64 ar2,.bool ng2,nn2.val,dd2.val,.string (txt nm2),ss2.val] rfl (fun i v hv=>hld2 _ _ i v Ab hv) ?_)|refine hix1 _ _ rfl ?_|refine hix2 _ _ rfl ?_|((first|apply oI.z|apply cI.z))|intro (_:Nat)|(show Ld _ _ _ _;first|refine Ld.o 1 rfl rfl ?_|refine Ld.o 3 rfl rfl ?_|refine Ld.o 5 rfl rfl ?_)|(show Sto _ _ _ _;first|refine Sto.l 0 rfl rfl rfl ?_|refine Sto.l 4 rfl rfl rfl ?_))<;>conv=>whnf)|(show CN _ _ _ _ _ _;first|(refine CN.f rfl (e1 _ _ (hE1.mono Af)) (fun v h' hl2 hr=>?_);obtain⟨op3,ar3,ng3,nn3,dd3,nm3,ss3,rfl,hE3⟩:=hr;conv=>whnf)|(refine CN.f rfl (e2 _ _ (hE2.mono Ab)) (fun v h' hl2 hr=>?_);obtain⟨op4,ar4,ng4,nn4,dd4,nm4,ss4,rfl,hE4⟩:=hr;conv=>whnf)|(refine CN.keep 0 rfl rfl (fun hl5=>?_);refine CN.f rfl (gZ _ _ Am Am (IsE.mono Ab Ab) (IsE.mono Ab Af) hl5) (fun v h' hl2 hr=>?_);obtain⟨op9,ar9,ng9,nn9,dd9,nm9,ss9,rfl,hE9⟩:=hr;first|(refine⟨fun _=>aH.keep (n:=0) rfl hl5 hl2,?_⟩;conv=>whnf)|(conv=>whnf)))|(apply aD<;>intro _<;>first|(exfalso;omega)|conv=>whnf)
  all_goals exact RN.a ⟨_,_,_,_,_,_,_,rfl,Ab⟩
 .obtain⟨k,k',rfl⟩:∃k k',ks=[k,k']:=by
   match ks,hn2 with
   | [k,k'],_=>exact⟨k,k',rfl⟩
  rw[cA,cA] at hoks;rw[bK,bK] at hpk;rw[tL,tL] at hs2;obtain⟨bl1,off1,op1,ar1,ng1,nn1,dd1,nm1,ss1,hE1,hld1,hln1,hix1⟩:=hk.kidP 0 _ rfl;obtain⟨bl2,off2,op2,ar2,ng2,nn2,dd2,nm2,ss2,hE2,hld2,hln2,hix2⟩:=hk.kidP 1 _ rfl;have e1:=fun h vs w=>ih k (aP (j:=0) rfl) h vs w hoks.1 hs2.1 hpk.1
  have e2:=fun h vs w=>ih k' (aP (j:=1) rfl) h vs w hoks.2.1 hs2.2.1 hpk.2.1
  rw[if_neg Ad,if_neg Ad,dV,dV,dV,sP];show Fn0 T _ _ _ fun v h'=>VE h' v (aF 6 0 [eS id nm k,eS id nm k'])
  obtain⟨D1,hD1⟩:=AB (eS id nm k);obtain⟨D2,hD2⟩:=AB (eS id nm k');simp only[<-hD1] at e1 ⊢;simp only[<-hD2] at e2 ⊢;clear hD1 hD2;have hkl:s.l=2:=hk.len;refine f0C ok D.q52 rfl ?_;conv=>whnf
  repeat' first|((first|(apply aQ.go)|(show LdN _ _ _ _ _;first|refine LdN.oA 0 rfl rfl ?_|refine LdN.oA 2 rfl rfl ?_|refine LdN.oA 4 rfl rfl ?_|(refine LdN.hasN [.int .i64 op1,.int .i64 ar1,.bool ng1,nn1.val,dd1.val,.string (txt nm1),ss1.val] rfl (fun i v hv=>hld1 _ _ i v Af hv) ?_)|refine LdN.hasN [.int .i64 op2,.int .i64 ar2,.bool ng2,nn2.val,dd2.val,.string (txt nm2),ss2.val] rfl (fun i v hv=>hld2 _ _ i v Ab hv) ?_)|refine hix1 _ _ rfl ?_|refine hix2 _ _ rfl ?_|((first|apply oI.z|apply cI.z))|intro (_:Nat)|(show Ld _ _ _ _;first|refine Ld.o 1 rfl rfl ?_|refine Ld.o 3 rfl rfl ?_|refine Ld.o 5 rfl rfl ?_)|(show Sto _ _ _ _;first|refine Sto.l 0 rfl rfl rfl ?_|refine Sto.l 4 rfl rfl rfl ?_))<;>conv=>whnf)|(show CN _ _ _ _ _ _;first|(refine CN.f rfl (e1 _ _ (hE1.mono Af)) (fun v h' hl2 hr=>?_);obtain⟨op3,ar3,ng3,nn3,dd3,nm3,ss3,rfl,hE3⟩:=hr;conv=>whnf)|(refine CN.f rfl (e2 _ _ (hE2.mono Ab)) (fun v h' hl2 hr=>?_);obtain⟨op4,ar4,ng4,nn4,dd4,nm4,ss4,rfl,hE4⟩:=hr;conv=>whnf)|(refine CN.keep 0 rfl rfl (fun hl5=>?_);refine CN.f rfl (gZ _ _ Am Am (IsE.mono Ab Ab) (IsE.mono Ab Af) hl5) (fun v h' hl2 hr=>?_);obtain⟨op9,ar9,ng9,nn9,dd9,nm9,ss9,rfl,hE9⟩:=hr;first|(refine⟨fun _=>aH.keep (n:=0) rfl hl5 hl2,?_⟩;conv=>whnf)|(conv=>whnf)))|(apply aD<;>intro _<;>first|(exfalso;omega)|conv=>whnf)
  all_goals exact RN.a ⟨_,_,_,_,_,_,_,rfl,Ab⟩
 .obtain⟨k,k',rfl⟩:∃k k',ks=[k,k']:=by
   match ks,hn2 with
   | [k,k'],_=>exact⟨k,k',rfl⟩
  rw[cA,cA] at hoks;rw[bK,bK] at hpk;rw[tL,tL] at hs2;obtain⟨bl1,off1,op1,ar1,ng1,nn1,dd1,nm1,ss1,hE1,hld1,hln1,hix1⟩:=hk.kidP 0 _ rfl;obtain⟨bl2,off2,op2,ar2,ng2,nn2,dd2,nm2,ss2,hE2,hld2,hln2,hix2⟩:=hk.kidP 1 _ rfl;have e1:=fun h vs w=>ih k (aP (j:=0) rfl) h vs w hoks.1 hs2.1 hpk.1
  have e2:=fun h vs w=>ih k' (aP (j:=1) rfl) h vs w hoks.2.1 hs2.2.1 hpk.2.1
  rw[if_neg Ad,if_neg Ad,dV,dV,dV,sP];show Fn0 T _ _ _ fun v h'=>VE h' v (aF 5 0 [aF 7 0 [eS id nm k,k'],aF 7 0 [k,eS id nm k']])
  obtain⟨D1,hD1⟩:=AB (eS id nm k);obtain⟨D2,hD2⟩:=AB (eS id nm k');simp only[<-hD1] at e1 ⊢;simp only[<-hD2] at e2 ⊢;clear hD1 hD2;have hkl:s.l=2:=hk.len;refine f0C ok D.q52 rfl ?_;conv=>whnf
  repeat' first|((first|(apply aQ.go)|(show LdN _ _ _ _ _;first|refine LdN.oA 0 rfl rfl ?_|(refine LdN.hasN [.int .i64 op1,.int .i64 ar1,.bool ng1,nn1.val,dd1.val,.string (txt nm1),ss1.val] rfl (fun i v hv=>hld1 _ _ i v Af hv) ?_)|refine LdN.hasN [.int .i64 op2,.int .i64 ar2,.bool ng2,nn2.val,dd2.val,.string (txt nm2),ss2.val] rfl (fun i v hv=>hld2 _ _ i v Ab hv) ?_)|(show CN _ _ _ _ _ _;first|(refine CN.f rfl (e1 _ _ (hE1.mono Af)) (fun v h' hl2 hr=>?_);obtain⟨op3,ar3,ng3,nn3,dd3,nm3,ss3,rfl,hE3⟩:=hr)|(refine CN.f rfl (e2 _ _ (hE2.mono Ab)) (fun v h' hl2 hr=>?_);obtain⟨op4,ar4,ng4,nn4,dd4,nm4,ss4,rfl,hE4⟩:=hr))|(show Ld _ _ _ _;first|refine Ld.o 1 rfl rfl ?_|refine Ld.o 3 rfl rfl ?_|refine Ld.o 5 rfl rfl ?_)|refine Sto.l 0 rfl rfl rfl ?_)<;>conv=>whnf)|(refine hix1 _ _ rfl ?_;conv=>whnf)|(refine hix2 _ _ rfl ?_;conv=>whnf)|(refine cI.stop 27 ?_)|((first|apply oI.z|apply cI.z);conv=>whnf)|(intro (_:Nat);conv=>whnf)|(apply aD<;>intro _<;>first|(exfalso;omega)|conv=>whnf)
  rename_i bb2 bb4 y1 y2 y3 bb5 y31 y32 bb6 y4 y5 y6 y7 bb8 bb9 y8 y9;refine⟨aQ.cut (fun ρ hx Lx=>∃(b10 b11:Nat) (op7 ar7:Int) (ng7:Bool) (nn7 dd7:Sl) (nm7:List Nat) (ss7:Sl) (op8 ar8:Int) (ng8:Bool) (nn8 dd8:Sl) (nm8:List Nat) (ss8:Sl),rd ρ 10=.pointer (some ⟨b10,0,none⟩)/\rd ρ 11=.pointer (some ⟨b11,0,none⟩)/\h'.le hx/\(Lx=(b10,.cells [.int .i64 op7,.int .i64 ar7,.bool ng7,nn7.val,dd7.val,.string (txt nm7),ss7.val].toArray Ty.api_Expr (0,0))::(b11,.cells [.int .i64 op8,.int .i64 ar8,.bool ng8,nn8.val,dd8.val,.string (txt nm8),ss8.val].toArray Ty.api_Expr (0,0))::[(bb9,.cells [.int .i64 op4,.int .i64 ar4,.bool ng4,nn4.val,dd4.val,.string (txt nm4),ss4.val].toArray Ty.api_Expr (0,0)),(bb8,.cells [.int .i64 op2,.int .i64 ar2,.bool ng2,nn2.val,dd2.val,.string (txt nm2),ss2.val].toArray Ty.api_Expr (0,0)),(bb6,.cells [.int .i64 op3,.int .i64 ar3,.bool ng3,nn3.val,dd3.val,.string (txt nm3),ss3.val].toArray Ty.api_Expr (0,0)),(bb5,.cells [.int .i64 op1,.int .i64 ar1,.bool ng1,nn1.val,dd1.val,.string (txt nm1),ss1.val].toArray Ty.api_Expr (0,0)),(bb4,.cells [.int .i64 0,.int .i64 0,.bool false,.slice none 0 0,.slice none 0 0,.string ByteArray.empty,.slice none 0 0].toArray Ty.api_Expr (0,0)),(bb2,.cells [.int .i64 7,.int .i64 arg,.bool neg,a.val,b.val,.string (txt name),s.val].toArray Ty.api_Expr (0,0))]\/Lx=(b11,.cells [.int .i64 op8,.int .i64 ar8,.bool ng8,nn8.val,dd8.val,.string (txt nm8),ss8.val].toArray Ty.api_Expr (0,0))::(b10,.cells [.int .i64 op7,.int .i64 ar7,.bool ng7,nn7.val,dd7.val,.string (txt nm7),ss7.val].toArray Ty.api_Expr (0,0))::[(bb9,.cells [.int .i64 op4,.int .i64 ar4,.bool ng4,nn4.val,dd4.val,.string (txt nm4),ss4.val].toArray Ty.api_Expr (0,0)),(bb8,.cells [.int .i64 op2,.int .i64 ar2,.bool ng2,nn2.val,dd2.val,.string (txt nm2),ss2.val].toArray Ty.api_Expr (0,0)),(bb6,.cells [.int .i64 op3,.int .i64 ar3,.bool ng3,nn3.val,dd3.val,.string (txt nm3),ss3.val].toArray Ty.api_Expr (0,0)),(bb5,.cells [.int .i64 op1,.int .i64 ar1,.bool ng1,nn1.val,dd1.val,.string (txt nm1),ss1.val].toArray Ty.api_Expr (0,0)),(bb4,.cells [.int .i64 0,.int .i64 0,.bool false,.slice none 0 0,.slice none 0 0,.string ByteArray.empty,.slice none 0 0].toArray Ty.api_Expr (0,0)),(bb2,.cells [.int .i64 7,.int .i64 arg,.bool neg,a.val,b.val,.string (txt name),s.val].toArray Ty.api_Expr (0,0))])/\IsE hx [.int .i64 op7,.int .i64 ar7,.bool ng7,nn7.val,dd7.val,.string (txt nm7),ss7.val] (aF 7 0 [D1,k'])/\IsE hx [.int .i64 op8,.int .i64 ar8,.bool ng8,nn8.val,dd8.val,.string (txt nm8),ss8.val] (aF 7 0 [k,D2])) ?_ ?_⟩
  .conv=>whnf
   repeat ((first|apply oI.z|apply cI.z);conv=>whnf)
   repeat' first|((first|(show LdN _ _ _ _ _;first|refine LdN.oA 0 rfl rfl ?_|refine LdN.oA 1 rfl rfl ?_|refine LdN.oA 2 rfl rfl ?_|refine LdN.oA 3 rfl rfl ?_)|(show Sto _ _ _ _;first|refine Sto.l 0 rfl rfl rfl ?_|refine Sto.l 1 rfl rfl rfl ?_)|refine DrN.run Al ?_|refine⟨fun _=>aH.cons _,?_⟩|refine⟨fun hst=>(by cases (show true=false from hst)),?_⟩|intro (_:Nat))<;>conv=>whnf)|(show CN _ _ _ _ _ _;first|(refine CN.keep 0 rfl rfl (fun hl5=>?_);refine CN.f rfl (gZ _ _ Am Am (IsE.mono Ab Ac) (IsE.mono Ab Ac) hl5) (fun v h' hl2 hr=>?_);obtain⟨op9,ar9,ng9,nn9,dd9,nm9,ss9,rfl,hE9⟩:=hr;first|(refine⟨fun _=>aH.keep (n:=0) rfl hl5 hl2,?_⟩;conv=>whnf)|(conv=>whnf))|(refine CN.keep 1 rfl rfl (fun hl5=>?_);refine CN.f rfl (gZ _ _ Am Am (IsE.mono Ab Ac) (IsE.mono Ab Ac) hl5) (fun v h' hl2 hr=>?_);obtain⟨op9,ar9,ng9,nn9,dd9,nm9,ss9,rfl,hE9⟩:=hr;first|(refine⟨fun _=>aH.keep (n:=1) rfl hl5 hl2,?_⟩;conv=>whnf)|(conv=>whnf))|(refine CN.keep 2 rfl rfl (fun hl5=>?_);refine CN.f rfl (gZ _ _ Am Am (IsE.mono Ab Ac) (IsE.mono Ab Ac) hl5) (fun v h' hl2 hr=>?_);obtain⟨op9,ar9,ng9,nn9,dd9,nm9,ss9,rfl,hE9⟩:=hr;first|(refine⟨fun _=>aH.keep (n:=2) rfl hl5 hl2,?_⟩;conv=>whnf)|(conv=>whnf))|(refine CN.keep 3 rfl rfl (fun hl5=>?_);refine CN.f rfl (gZ _ _ Am Am (IsE.mono Ab Ab) (IsE.mono Ab Ac) hl5) (fun v h' hl2 hr=>?_);obtain⟨op9,ar9,ng9,nn9,dd9,nm9,ss9,rfl,hE9⟩:=hr;first|(refine⟨fun _=>aH.keep (n:=3) rfl hl5 hl2,?_⟩;conv=>whnf)|(conv=>whnf)))|(refine sS.mk ?_ ?_<;>(conv=>whnf))
   all_goals first
    | exact⟨rfl,_,_,_,_,_,_,_,_,_,_,_,_,_,_,_,_,rfl,rfl,Ac,.inl rfl,(IsE.mono Ab Ac),(IsE.mono Ab Af)⟩
    | exact⟨rfl,_,_,_,_,_,_,_,_,_,_,_,_,_,_,_,_,rfl,rfl,Ac,.inr rfl,(IsE.mono Ab Ac),(IsE.mono Ab Af)⟩
  conv=>whnf
  repeat intro _
  rename_i h4 L4 hJ;obtain⟨b10,b11,op7,ar7,ng7,nn7,dd7,nm7,ss7,op8,ar8,ng8,nn8,dd8,nm8,ss8,e10,e11,hle4,rfl|rfl,hE7,hE8⟩:=hJ
  all_goals
   conv at e10=>lhs;whnf
   subst e10;conv at e11=>lhs;whnf
   subst e11;conv=>whnf
   repeat' first|((first|(show LdN _ _ _ _ _;first|refine LdN.oA 0 rfl rfl ?_|refine LdN.oA 1 rfl rfl ?_|refine LdN.oA 6 rfl rfl ?_)|((first|apply oI.z|apply cI.z))|intro (_:Nat)|refine Ld.o 7 rfl rfl ?_|refine Sto.l 6 rfl rfl rfl ?_)<;>conv=>whnf)|(show CN _ _ _ _ _ _;first|(refine CN.keep 0 rfl rfl (fun hl5=>?_);refine CN.f rfl (gZ _ _ Am Am (IsE.mono Ab Af) (IsE.mono Ab Af) hl5) (fun v h' hl2 hr=>?_);obtain⟨op9,ar9,ng9,nn9,dd9,nm9,ss9,rfl,hE9⟩:=hr;first|(refine⟨fun _=>aH.keep (n:=0) rfl hl5 hl2,?_⟩;conv=>whnf)|(conv=>whnf)))|(apply aD<;>intro _<;>first|(exfalso;omega)|conv=>whnf)
   all_goals exact RN.a ⟨_,_,_,_,_,_,_,rfl,Ab⟩
 .exact absurd hpo Aa
theorem aO9(t:Tr)(nm:List Nat)(hnm:∀y∈nm,y<256)(h:aA)(vs:List Value)(tb:Tb h)(w:IsE h vs t)(hp:aZ t)(hvt:dN t)(hnt:fE nm)(hrt:qJ t=none):Fn0 T F.q19 [.agg vs.toArray,.string (txt nm)] h fun v h'=>bBo h' v (aOj nm t):=by
 have c1:=fun h tb w=>rB t h vs tb w
 have c2:=fun h=>pL h nm hnm
 have c3:=fun h w=>aOa t h vs w hvt.1
 have c4:=fun h w=>aKc nm hnm t h vs w (rG hvt.1) (aEo hrt) hp
 have c5:=fun h us tb w=>aBk (eS id nm t) h us tb w (aS4 (rG hvt.1) (aEo hrt)) (aTe hnt t (rG hvt.1) hp).2
 have c6:=fun h us tb w=>zK (eA (eS id nm t)) h us tb w
 obtain⟨⟨op,arg,neg,l,m,name,ks⟩,ht⟩:=AB t;obtain⟨a,b,s,hvs,-⟩:=(ht.symm▸w:IsE h vs (.mk op arg neg l m name ks)).isK;subst hvs;unfold aOj;rw[if_neg (not_not_intro hvt),if_neg (not_not_intro hnt),if_neg (not_not_intro hrt)];rw[show dec (dN t)=true from bA hvt] at c1;rw[show dec (fE nm)=true from bA hnt] at c2;rw[show dec (qJ t=none)=true from bA hrt] at c3;refine f0C ok D.q19 rfl ?_;conv=>whnf
 repeat' ((first|(show LdN _ _ _ _ _;first|refine LdN.oA 0 rfl rfl ?_|refine LdN.oA 1 rfl rfl ?_)|(show CN _ _ _ _ _ _;first|(refine CN.f rfl (c1 _ Ab Ab) (fun v h' hl2 hr=>?_);subst hr)|(refine CN.f rfl (c2 _) (fun v h' hl2 hr=>?_);subst hr)|(refine CN.quiet rfl (c3 _ Ai) ?_)|(refine CN.f rfl (c4 _ Ai) (fun v h' hl2 hr=>?_);obtain⟨op6,ar6,ng6,nn6,dd6,nm6,ss6,rfl,hE6⟩:=hr)|(refine CN.f rfl (c5 _ _ Ae hE6) (fun v h' hl2 hr=>?_);obtain⟨op7,ar7,ng7,nn7,dd7,nm7,ss7,rfl,hE7⟩:=hr)|(refine CN.f rfl (c6 _ _ Ae hE7) (fun v h' hl2 hr=>?_);obtain⟨_,rfl,op8,ar8,ng8,nn8,dd8,nm8,ss8,rfl,hE8⟩:=hr))|((first|apply oI.z|apply cI.z))|intro (_:Nat)|refine Sto.l 0 rfl rfl rfl ?_)<;>conv=>whnf)
 all_goals exact RN.a ⟨_,rfl,op8,ar8,ng8,nn8,dd8,nm8,ss8,rfl,Ab⟩
end Go.Proofs.Y