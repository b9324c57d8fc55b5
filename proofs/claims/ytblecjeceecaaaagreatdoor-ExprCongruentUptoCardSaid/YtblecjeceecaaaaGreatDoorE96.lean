/- The document's text of a tree. -/
import Derived.Test.YtblecjeceecaaaaGreatDoorE62
import Derived.Test.YtblecjeceecaaaaGreatDoorVcStop
set_option linter.all false
set_option maxHeartbeats 4000000
set_option maxRecDepth 20000
namespace Go.Proofs.Y
open Go Go.Vc Go.Dig
theorem aYk(n:Int):jB (n:Rat)=itT n:=by
 unfold jB itT;rw[aF0,vD,qV,if_pos rfl,bIy];by_cases h:n<0
 .rw[if_pos (decide_eq_true h),if_pos h];rfl
 .rw[if_neg (by rw[decide_eq_false h];exact Bool.noConfusion),if_neg h]
attribute [local irreducible] Vc.Fn
theorem aSj(t:Tr)(h:aA)(vs:List Value)(w:IsE h vs t):Fn0 T F.q281 [.agg vs.toArray] h fun v h'=>v=.int .i64 (aT t.op):=by
 obtain⟨op,arg,neg,l,m,name,ks⟩:=t;obtain⟨a,b,s,rfl,ho,ha,hv,hb,hk⟩:=w.isK;show Fn0 T _ _ _ fun v h'=>v=.int .i64 (aT op)
 have k0:op=5\/op=6->aT op=1:=fun x=>if_pos x
 have k1:op=7\/op=8->aT op=2:=fun x=>by unfold aT;rw[if_neg Aa,if_pos x]
 have k2:op=4->aT op=3:=fun x=>by unfold aT;rw[if_neg Aa,if_neg Aa,if_pos x]
 have k3:op=9->aT op=4:=fun x=>by unfold aT;rw[if_neg Aa,if_neg Aa,if_neg Aa,if_pos x]
 have k4:¬(op=5\/op=6)->¬(op=7\/op=8)->op≠4->op≠9->aT op=5:=fun x y z u=>by unfold aT;rw[if_neg x,if_neg y,if_neg z,if_neg u]
 obtain⟨R,hR⟩:=AH (aT op);rw[<-hR] at k0 k1 k2 k3 k4 ⊢;replace k0:=Hq.mk k0;replace k1:=Hq.mk k1;replace k2:=Hq.mk k2;replace k3:=Hq.mk k3;replace k4:=Hq.mk k4;clear hR;refine f0C ok D.q281 rfl ?_;conv=>whnf
 repeat' ((first|(apply bJ.go)|((first|apply oI.z|apply cI.z))|intro (_:Nat)|refine Ld.o 0 rfl rfl ?_|(apply aD<;>intro _<;>try (exfalso;omega)))<;>conv=>whnf)
 all_goals first
  | (rw[k0.out Aa];exact RN.a rfl)
  | (rw[k1.out Aa];exact RN.a rfl)
  | (rw[k2.out Aa];exact RN.a rfl)
  | (rw[k3.out Aa];exact RN.a rfl)
  | (rw[k4.out Aa Aa Aa Aa];exact RN.a rfl)
def Txs(t:Tr):Prop:=∀(h:aA) (vs:List Value),IsE h vs t->Fn0 T F.q138 [.agg vs.toArray] h fun v h'=>v=.string (txt (aE t))
theorem fW(t:Tr)(c:Txs t)(hl:(aE t).length<=900000)(low:Int)(h:aA)(vs:List Value)(w:IsE h vs t):Fn0 T F.q217 [.agg vs.toArray,.int .i64 low] h fun v h'=>v=.string (txt (aN (aE t,aT t.op) low)):=by
 have c1:=fun h vs w=>c h vs w
 have c2:=fun h vs w=>aSj t h vs w
 have k0:low<=aT t.op->aN (aE t,aT t.op) low=aE t:=fun x=>if_pos x
 have k1:¬low<=aT t.op->aN (aE t,aT t.op) low=[40]++aE t++[41]:=fun x=>if_neg x
 obtain⟨R,hR⟩:=AH (aN (aE t,aT t.op) low);obtain⟨X,hX⟩:=AH (aE t);obtain⟨V,hV⟩:=AH (aT t.op);rw[<-hR];rw[<-hR,<-hX,<-hV] at k0 k1;rw[<-hX] at hl;simp only[<-hX] at c1;simp only[<-hV] at c2;clear hR hX hV c;replace k0:=Hq.mk k0;replace k1:=Hq.mk k1;obtain⟨⟨op,arg,neg,l,m,name,ks⟩,ht⟩:=AH t;obtain⟨a,b,s,hvs,-⟩:=(ht.symm▸w:IsE h vs (.mk op arg neg l m name ks)).isK;subst hvs;refine f0C ok D.q217 rfl ?_;conv=>whnf
 repeat' ((first|(show LdN _ _ _ _ _;refine LdN.oA 0 rfl rfl ?_)|(show CN _ _ _ _ _ _;first|(refine CN.f rfl (c1 _ _ Ab) (fun v h' hl2 hr=>?_);subst hr)|(refine CN.f rfl (c2 _ _ Al) (fun v h' hl2 hr=>?_);subst hr))|(show Cat _ _ _;first|(refine Cat.txt (a:=[40]) rfl rfl Ar ?_)|(refine Cat.txt (b:=[41]) rfl rfl Ar ?_))|((first|apply oI.z|apply cI.z))|intro (_:Nat)|(apply aB<;>intro _<;>try (exfalso;omega)))<;>conv=>whnf)
 all_goals first
  | (rw[k0.out Aa];exact RN.a rfl)
  | (rw[k1.out Aa];exact RN.a rfl)
theorem aC6(h:aA)(n:Int)(h1:-100<=n)(h2:n<=100):Fn0 T F.q218 [.int .i64 n] h fun v h'=>v=.string (txt (itT n)):=by
 have hf:=wN n Aa Aa;have c1:=fun h=>qZ h n Aa Aa
 have c2:=fun h (a b:Sl) w=>aIu h a b (n:Rat) w ⟨hf.1,hf.2⟩
 simp only[aYk] at c2;obtain⟨Q,hQ⟩:=AH (n:Rat);simp only[<-hQ] at c1 c2;clear hQ hf;refine f0C ok D.q218 rfl ?_;conv=>whnf
 repeat' ((first|(show CN _ _ _ _ _ _;first|(refine CN.f rfl (c1 _) (fun v h' hl2 hr=>?_);obtain⟨s5,t5,rfl,hq5⟩:=hr)|(refine CN.f rfl (c2 _ _ _ hq5) (fun v h' hl2 hr=>?_);subst hr))|((first|apply oI.z|apply cI.z)))<;>conv=>whnf)
 all_goals exact RN.a rfl
end Go.Proofs.Y
/- The document's text of a tree: words with operands, the whole, what Print answers. -/
namespace Go.Proofs.Y
open Go Go.Vc Go.Dig
attribute [local irreducible] Vc.Fn
theorem aYl(h:aA)(n:Nat)(h1:1<=n)(h8:n<=8):Fn0 T F.q282 [.int .i64 n] h fun v h'=>v=.string (txt (aW.getD (n-1) [])):=by
 have hk:n=1\/n=2\/n=3\/n=4\/n=5\/n=6\/n=7\/n=8:=Aa;rcases hk with rfl|rfl|rfl|rfl|rfl|rfl|rfl|rfl
 .refine f0C ok D.q282 rfl ?_;conv=>whnf
  repeat' ((first|(show Idx _ _ _ _ _;refine Idx.one 0 rfl rfl Ae ?_)|((first|apply oI.z|apply cI.z))|intro (_:Nat)|refine WN.i64 Aa Aa ?_|refine Ld.o 0 rfl rfl ?_|(apply aB<;>intro _<;>try (exfalso;omega)))<;>conv=>whnf)
  all_goals exact RN.a rfl
 .refine f0C ok D.q282 rfl ?_;conv=>whnf
  repeat' ((first|(show Idx _ _ _ _ _;refine Idx.one 1 rfl rfl Ae ?_)|((first|apply oI.z|apply cI.z))|intro (_:Nat)|refine WN.i64 Aa Aa ?_|refine Ld.o 0 rfl rfl ?_|(apply aB<;>intro _<;>try (exfalso;omega)))<;>conv=>whnf)
  all_goals exact RN.a rfl
 .refine f0C ok D.q282 rfl ?_;conv=>whnf
  repeat' ((first|(show Idx _ _ _ _ _;refine Idx.one 2 rfl rfl Ae ?_)|((first|apply oI.z|apply cI.z))|intro (_:Nat)|refine WN.i64 Aa Aa ?_|refine Ld.o 0 rfl rfl ?_|(apply aB<;>intro _<;>try (exfalso;omega)))<;>conv=>whnf)
  all_goals exact RN.a rfl
 .refine f0C ok D.q282 rfl ?_;conv=>whnf
  repeat' ((first|(show Idx _ _ _ _ _;refine Idx.one 3 rfl rfl Ae ?_)|((first|apply oI.z|apply cI.z))|intro (_:Nat)|refine WN.i64 Aa Aa ?_|refine Ld.o 0 rfl rfl ?_|(apply aB<;>intro _<;>try (exfalso;omega)))<;>conv=>whnf)
  all_goals exact RN.a rfl
 .refine f0C ok D.q282 rfl ?_;conv=>whnf
  repeat' ((first|(show Idx _ _ _ _ _;refine Idx.one 4 rfl rfl Ae ?_)|((first|apply oI.z|apply cI.z))|intro (_:Nat)|refine WN.i64 Aa Aa ?_|refine Ld.o 0 rfl rfl ?_|(apply aB<;>intro _<;>try (exfalso;omega)))<;>conv=>whnf)
  all_goals exact RN.a rfl
 .refine f0C ok D.q282 rfl ?_;conv=>whnf
  repeat' ((first|(show Idx _ _ _ _ _;refine Idx.one 5 rfl rfl Ae ?_)|((first|apply oI.z|apply cI.z))|intro (_:Nat)|refine WN.i64 Aa Aa ?_|refine Ld.o 0 rfl rfl ?_|(apply aB<;>intro _<;>try (exfalso;omega)))<;>conv=>whnf)
  all_goals exact RN.a rfl
 .refine f0C ok D.q282 rfl ?_;conv=>whnf
  repeat' ((first|(show Idx _ _ _ _ _;refine Idx.one 6 rfl rfl Ae ?_)|((first|apply oI.z|apply cI.z))|intro (_:Nat)|refine WN.i64 Aa Aa ?_|refine Ld.o 0 rfl rfl ?_|(apply aB<;>intro _<;>try (exfalso;omega)))<;>conv=>whnf)
  all_goals exact RN.a rfl
 .refine f0C ok D.q282 rfl ?_;conv=>whnf
  repeat' ((first|(show Idx _ _ _ _ _;refine Idx.one 7 rfl rfl Ae ?_)|((first|apply oI.z|apply cI.z))|intro (_:Nat)|refine WN.i64 Aa Aa ?_|refine Ld.o 0 rfl rfl ?_|(apply aB<;>intro _<;>try (exfalso;omega)))<;>conv=>whnf)
  all_goals exact RN.a rfl
theorem aSk{ks:List Tr}(hw:∀t∈ks,Txs t)(hks:ks.length<=3)(h:aA)(op arg:Int)(hop:10<=op/\op<=15)(harg:-100<=arg/\arg<=100)(harg11:op=11->1<=arg/\arg<=8)(neg:Bool)(a b':Sl)(name:List Nat)(s:Sl)
  (hk:IsK h s ks) (hl:(dR op arg).length+(bR true (aL ks)).length+1<=900000):
  Fn0 T F.q219 [.agg #[.int .i64 op,.int .i64 arg,.bool neg,a.val,b'.val,.string (txt name),s.val]] h fun v h'=>v=.string (txt (dR op arg++bR true (aL ks)++[41])):=by
 have hkl:=hk.len;have c1:=fun h=>aC6 h arg Aa Aa
 have hil:=tZ harg.1 harg.2;have hhl:=yO (op:=op) harg.1 harg.2;have k1:op=10->arg=2->dR op arg=[115,113,114,116,40]:=fun e f=>by rw[dR,if_pos e,if_pos f]
 have k2:op=10->arg≠2->dR op arg=[114,111,111,116,40]++itT arg++[44,32]:=fun e f=>by rw[dR,if_pos e,if_neg f]
 have k3:op=11->dR op arg=aW.getD (arg.toNat-1) []++[40]:=fun e=>by subst e;rfl
 have k4:op=12->dR op arg=[97,98,115,40]:=fun e=>by subst e;rfl
 have k5:op=13->dR op arg=[109,105,110,40]:=fun e=>by subst e;rfl
 have k6:op=14->dR op arg=[109,97,120,40]:=fun e=>by subst e;rfl
 have k7:op=15->dR op arg=[105,102,40]:=fun e=>by subst e;rfl
 obtain⟨HD,hHD⟩:=AH (dR op arg);rw[<-hHD] at hl hhl k1 k2 k3 k4 k5 k6 k7 ⊢;clear hHD;have c3:op=11->∀h,Fn0 T F.q282 [.int .i64 arg] h fun v h'=>v=.string (txt (aW.getD (arg.toNat-1) [])):=fun e h=>by
  have:=aYl h arg.toNat (by have:=(harg11 e).1;omega) (by have:=(harg11 e).2;omega)
  rw[bLf (by have:=(harg11 e).1;omega)] at this;exact this
 have hfl:=yN (arg.toNat-1);obtain⟨FN,hFN⟩:=AH (aW.getD (arg.toNat-1) []);rw[<-hFN] at c3 k3 hfl;clear hFN;refine f0C ok D.q219 rfl ?_;conv=>whnf
 repeat' first|(refine cI.stopS 2 ?_)|((first|apply oI.z|apply cI.z);conv=>whnf)|(intro (_:Nat);conv=>whnf)
 rename_i bE;refine⟨bJ.cut (fun ρ hx Lx=>rd ρ 3=.string (txt HD)/\h.le hx/\Lx=[(bE,.cells [.int .i64 op,.int .i64 arg,.bool neg,a.val,b'.val,.string (txt name),s.val].toArray Ty.api_Expr (0,0))]) ?_ ?_⟩
 .conv=>whnf
  repeat' first|((first|(show CN _ _ _ _ _ _;first|(refine CN.f rfl (c1 _) (fun v h' hl2 hr=>?_);subst hr)|(refine CN.f rfl (c3 Aa _) (fun v h' hl2 hr=>?_);subst hr))|(show Cat _ _ _;first|(refine Cat.txt (a:=[114,111,111,116,40]) (b:=itT arg) rfl rfl Ap ?_)|(refine Cat.txt (a:=[114,111,111,116,40]++itT arg) (b:=[44,32]) rfl rfl Ap ?_)|(refine Cat.txt (a:=FN) (b:=[40]) rfl rfl Ap ?_))|((first|apply oI.z|apply cI.z))|refine Ld.o 0 rfl rfl ?_)<;>conv=>whnf)|(show cnd _ _ _;first|(apply aD<;>intro _<;>first|(exfalso;omega)|conv=>whnf)|(refine aI ?_))
  all_goals first
   | exact⟨rfl,by rw[k1 Aa Aa];rfl,by first|exact aA.lr _|assumption,rfl⟩
   | exact⟨rfl,by rw[k2 Aa Aa];rfl,by first|exact aA.lr _|assumption,rfl⟩
   | exact⟨rfl,by rw[k3 Aa];rfl,Ab,rfl⟩
   | exact⟨rfl,by rw[k4 Aa];rfl,aA.lr _,rfl⟩
   | exact⟨rfl,by rw[k5 Aa];rfl,aA.lr _,rfl⟩
   | exact⟨rfl,by rw[k6 Aa];rfl,aA.lr _,rfl⟩
   | exact⟨rfl,by rw[k7 Aa];rfl,aA.lr _,rfl⟩
 conv=>whnf
 repeat intro _
 rename_i h1 L1 hJ;obtain⟨e4,hle1,rfl⟩:=hJ;conv at e4=>lhs;whnf
 subst e4;have hk1:=hk.mono hle1;have htl:=rF ks;have hjl:=pV true (aL ks);clear k1 k2 k3 k4 k5 k6 k7 c1 c3;conv=>whnf
 repeat ((first|apply oI.z|apply cI.z);conv=>whnf)
 skip
 refine LpN.keepL (fun r ρ hx=>∃j:Nat,r=ks.length-j/\j<=ks.length/\rd ρ 4=.int .i64 j/\rd ρ 3=.string (txt (HD++bR true ((aL ks).take j)))) ks.length
  ⟨0,rfl,bJe _,vi rfl,by rw[bKq,bR,bIy];rfl⟩ ?_
 conv=>whnf
 repeat intro _
 rename_i r hx hle hI;obtain⟨j,rfl,hj,e5,e4⟩:=hI;conv at e5=>lhs;whnf
 subst e5;obtain⟨Y,hY⟩:=AH (HD++bR true ((aL ks).take j));rw[<-hY] at e4;conv at e4=>lhs;whnf
 subst e4;have hkx:=hk1.mono hle;have hYl:=congrArg List.length hY;rw[bIo] at hYl;by_cases hjk:j=ks.length
 .subst hjk;rw[<-htl,bI4] at hY hYl;conv=>whnf
  repeat' ((first|(show Cat _ _ _;(refine Cat.txt (a:=Y) (b:=[41]) rfl rfl Ap ?_))|((first|apply oI.z|apply cI.z))|refine Ld.o 0 rfl rfl ?_|(apply aB<;>intro _<;>try (exfalso;omega)))<;>conv=>whnf)
  all_goals exact RN.a (by rw[hY])
 .obtain⟨t,ht⟩:∃t,ks[j]?=some t:=⟨_,bIq Aa⟩
  have hgt:=fH ht;have hsp:=aEf hgt;have hjj:=jR true (j+1) (aL ks);have hj0:=jR true j (aL ks);have htk:(aL ks).take (j+1)=(aL ks).take j++[(aE t,aT t.op)]:=aY hgt;have hjs:bR true ((aL ks).take j++[(aE t,aT t.op)])=bR true ((aL ks).take j)++(if true=true/\(aL ks).take j=[] then [] else [44,32])++aE t:=rH true ((aL ks).take j) (aE t,aT t.op)
  rw[<-htk] at hjs;have hlt:((aL ks).take j).length=j:=by rw[bI9,htl];omega
  have hne:(aL ks).take j=[]↔j=0:=by rw[<-bJp,hlt]
  have c2:=fun h vs w=>hw t (bIu ht) h vs w
  have h1s:j=0->Y++aE t=HD++bR true ((aL ks).take (j+1)):=fun e=>by rw[hjs,if_pos ⟨rfl,hne.2 e⟩,hY,bIy,bIt]
  have h2s:j≠0->Y++[44,32]++aE t=HD++bR true ((aL ks).take (j+1)):=fun e=>by rw[hjs,if_neg (fun y=>e (hne.1 y.2)),hY];simp only[bIt]
  obtain⟨X,hX⟩:=AH (aE t);simp only[<-hX] at c2 h1s h2s hsp;have hl2:=congrArg List.length hjs;rw[<-hX,bIo,bIo] at hl2;clear hjs htk hX hgt hne;replace h1s:=Hq.mk h1s;replace h2s:=Hq.mk h2s;conv=>whnf
  repeat' ((first|(apply bJ.go)|(show Idx _ _ _ _ _;refine Idx.kid hkx j t Aa ht (fun ad op2 arg2 neg2 a2 b2 name2 s2 hE hld=>?_))|refine hld _ _ _ (aA.lr _) ?_|((first|apply oI.z|apply cI.z))|(show CN _ _ _ _ _ _;(refine CN.f rfl (c2 _ _ (hE.mono Ad)) (fun v h' hl2 hr=>?_);subst hr))|(show Cat _ _ _;first|(refine Cat.txt (a:=Y) (b:=[44,32]) rfl rfl Ap ?_)|(refine Cat.txt (a:=Y) (b:=X) rfl rfl Ap ?_)|(refine Cat.txt (a:=Y++[44,32]) (b:=X) rfl rfl Ap ?_))|refine WN.i64 Aa Aa ?_|refine Ld.o 0 rfl rfl ?_|(apply aB<;>intro _<;>try (exfalso;omega)))<;>conv=>whnf)
  all_goals first
   | exact⟨rfl,ks.length-(j+1),Aa,Ac,rfl,j+1,rfl,Aa,vi Aa,by rw[<-h1s.out Aa];rfl⟩
   | exact⟨rfl,ks.length-(j+1),Aa,Ac,rfl,j+1,rfl,Aa,vi Aa,by rw[<-h2s.out Aa];rfl⟩
theorem aYm{op arg:Int}{neg:Bool}{l m name:List Nat}{n:Nat}(h:fC op arg neg l m name n):op=1\/op=2\/op=3\/op=4\/op=5\/op=6\/op=7\/op=8\/op=9\/(10<=op/\op<=15):=by
 have h1:=h.1;unfold bM at h1
 repeat' split at h1
 all_goals omega
theorem aFb:∀(t:Tr) (d:Nat),okT d t->szT t<=300->Txs t:=by
 refine eE fun t ih=>?_
 intro d hok hsz h vs w;have hlen:=mY t d hok;obtain⟨op,arg,neg,l,m,name,ks⟩:=t;obtain⟨a,b,s,rfl,ho,ha,hv,hb,hk⟩:=w.isK;rw[okT] at hok;obtain⟨hd,hnb,hoks⟩:=hok;have hx1:∀k,szT k<szT (.mk op arg neg l m name ks)->k∈ks->Txs k/\(aE k).length<=450000:=fun k hz hm=>by
  have ok1:okT (d+1) k:=eF hoks hm;have:=mY k (d+1) ok1;exact⟨ih k hz (d+1) ok1 Aa,Aa⟩
 have kn:=aYm hnb;rcases kn with rfl|rfl|rfl|rfl|rfl|rfl|rfl|rfl|rfl|hop
 .rw[aE];show Fn0 T _ _ _ fun v h'=>v=.string (txt (jB (aK neg l m)))
  have c1:=fun h hv=>sM h neg a b l m hv
  have c2:=fun h (c d:Sl) w=>aIu h c d (aK neg l m) w (bAx hnb)
  obtain⟨q,hq⟩:=AH (aK neg l m);simp only[<-hq] at c1 c2 ⊢;clear hq;refine f0C ok D.q138 rfl ?_;conv=>whnf
  repeat' ((first|(show LdN _ _ _ _ _;refine LdN.oA 0 rfl rfl ?_)|(show CN _ _ _ _ _ _;first|(refine CN.f rfl (c1 _ Ab) (fun v h' hl2 hr=>?_);obtain⟨cc,dd,rfl,hfr⟩:=hr)|(refine CN.f rfl (c2 _ _ _ hfr) (fun v h' hl2 hr=>?_);subst hr))|((first|apply oI.z|apply cI.z))|intro (_:Nat)|refine Ld.o 0 rfl rfl ?_|(apply aD<;>intro _<;>try (exfalso;omega)))<;>conv=>whnf)
  all_goals exact RN.a rfl
 .rw[aE];show Fn0 T _ _ _ fun v h'=>v=.string (txt name)
  refine f0C ok D.q138 rfl ?_;conv=>whnf
  repeat' ((first|((first|apply oI.z|apply cI.z))|intro (_:Nat)|refine Ld.o 0 rfl rfl ?_|(apply aD<;>intro _<;>try (exfalso;omega)))<;>conv=>whnf)
  all_goals exact RN.a rfl
 .rw[aE];show Fn0 T _ _ _ fun v h'=>v=.string (txt [112,105])
  refine f0C ok D.q138 rfl ?_;conv=>whnf
  repeat' ((first|((first|apply oI.z|apply cI.z))|intro (_:Nat)|refine Ld.o 0 rfl rfl ?_|(apply aD<;>intro _<;>try (exfalso;omega)))<;>conv=>whnf)
  all_goals exact RN.a rfl
 .obtain⟨k,rfl⟩:=uE hnb.1 Ae;obtain⟨bl1,off1,op1,ar1,ng1,nn1,dd1,nm1,ss1,hE1,hld1,hln1,hix1⟩:=hk.kidP 0 _ rfl;have hk1:=hx1 k (bD (j:=0) rfl) (bIw ..);have q1:=fun h vs low w=>fW k hk1.1 (by have:=hk1.2;omega) low h vs w
  have l1:=fI (aE k,aT k.op) 3;rw[aE,aL,aL];show Fn0 T _ _ _ fun v h'=>v=.string (txt ([45]++aN (aE k,aT k.op) 3))
  have hl1:=hk1.2;clear hk1;replace q1:=fun h vs w=>q1 h vs 3 w
  obtain⟨P1,hP1⟩:=AH (aN (aE k,aT k.op) 3);simp only[<-hP1] at q1 l1 ⊢;clear hP1;have hkl:s.l=1:=hk.len;refine f0C ok D.q138 rfl ?_;conv=>whnf
  repeat' ((first|refine hix1 _ _ rfl ?_|((first|apply oI.z|apply cI.z))|intro (_:Nat)|(show LdN _ _ _ _ _;(refine LdN.hasN [.int .i64 op1,.int .i64 ar1,.bool ng1,nn1.val,dd1.val,.string (txt nm1),ss1.val] rfl (fun i v hv=>hld1 _ _ i v Ad hv) ?_))|(show CN _ _ _ _ _ _;(refine CN.f rfl (q1 _ _ (hE1.mono Ad)) (fun v h' hl2 hr=>?_);subst hr))|(show Cat _ _ _;(refine Cat.txt (a:=[45]) (b:=P1) rfl rfl Ap ?_))|refine Ld.o 0 rfl rfl ?_|(apply aD<;>intro _<;>try (exfalso;omega)))<;>conv=>whnf)
  all_goals exact RN.a rfl
 .obtain⟨k,k',rfl⟩:=qE hnb.1 Ae;obtain⟨bl1,off1,op1,ar1,ng1,nn1,dd1,nm1,ss1,hE1,hld1,hln1,hix1⟩:=hk.kidP 0 _ rfl;obtain⟨bl2,off2,op2,ar2,ng2,nn2,dd2,nm2,ss2,hE2,hld2,hln2,hix2⟩:=hk.kidP 1 _ rfl;have hk1:=hx1 k (bD (j:=0) rfl) (bIw ..);have hk2:=hx1 k' (bD (j:=1) rfl) (bIz _ (bIw ..));have q1:=fun h vs w=>fW k hk1.1 (by have:=hk1.2;omega) 1 h vs w
  have q2:=fun h vs w=>fW k' hk2.1 (by have:=hk2.2;omega) 2 h vs w
  have l1:=fI (aE k,aT k.op) 1;have l2:=fI (aE k',aT k'.op) 2;have hl1:=hk1.2;have hl2:=hk2.2;rw[aE,aL,aL,aL];show Fn0 T _ _ _ fun v h'=>v=.string (txt (aN (aE k,aT k.op) 1++[32,43,32]++aN (aE k',aT k'.op) 2))
  clear hk1 hk2;obtain⟨P1,hP1⟩:=AH (aN (aE k,aT k.op) 1);obtain⟨P2,hP2⟩:=AH (aN (aE k',aT k'.op) 2);simp only[<-hP1] at q1 l1 ⊢;simp only[<-hP2] at q2 l2 ⊢;clear hP1 hP2;have hkl:s.l=2:=hk.len;refine f0C ok D.q138 rfl ?_;conv=>whnf
  repeat' ((first|refine hix1 _ _ rfl ?_|refine hix2 _ _ rfl ?_|((first|apply oI.z|apply cI.z))|refine⟨fun _=>aJ.o Ab,?_⟩|intro (_:Nat)|(show LdN _ _ _ _ _;first|(refine LdN.hasN [.int .i64 op1,.int .i64 ar1,.bool ng1,nn1.val,dd1.val,.string (txt nm1),ss1.val] rfl (fun i v hv=>hld1 _ _ i v Ad hv) ?_)|(refine LdN.hasN [.int .i64 op2,.int .i64 ar2,.bool ng2,nn2.val,dd2.val,.string (txt nm2),ss2.val] rfl (fun i v hv=>hld2 _ _ i v Ad hv) ?_))|(show CN _ _ _ _ _ _;first|(refine CN.f rfl (q1 _ _ (hE1.mono Ad)) (fun v h' hl2 hr=>?_);subst hr)|(refine CN.f rfl (q2 _ _ (hE2.mono Ab)) (fun v h' hl2 hr=>?_);subst hr))|(show Cat _ _ _;first|(refine Cat.txt (a:=P1) (b:=[32,43,32]) rfl rfl Ap ?_)|(refine Cat.txt (a:=P1++[32,43,32]) (b:=P2) rfl rfl Ap ?_))|refine Ld.o 0 rfl rfl ?_|refine DrN.run Ak ?_|(apply aD<;>intro _<;>try (exfalso;omega)))<;>conv=>whnf)
  all_goals exact RN.a rfl
 .obtain⟨k,k',rfl⟩:=qE hnb.1 Ae;obtain⟨bl1,off1,op1,ar1,ng1,nn1,dd1,nm1,ss1,hE1,hld1,hln1,hix1⟩:=hk.kidP 0 _ rfl;obtain⟨bl2,off2,op2,ar2,ng2,nn2,dd2,nm2,ss2,hE2,hld2,hln2,hix2⟩:=hk.kidP 1 _ rfl;have hk1:=hx1 k (bD (j:=0) rfl) (bIw ..);have hk2:=hx1 k' (bD (j:=1) rfl) (bIz _ (bIw ..));have q1:=fun h vs w=>fW k hk1.1 (by have:=hk1.2;omega) 1 h vs w
  have q2:=fun h vs w=>fW k' hk2.1 (by have:=hk2.2;omega) 2 h vs w
  have l1:=fI (aE k,aT k.op) 1;have l2:=fI (aE k',aT k'.op) 2;have hl1:=hk1.2;have hl2:=hk2.2;rw[aE,aL,aL,aL];show Fn0 T _ _ _ fun v h'=>v=.string (txt (aN (aE k,aT k.op) 1++[32,45,32]++aN (aE k',aT k'.op) 2))
  clear hk1 hk2;obtain⟨P1,hP1⟩:=AH (aN (aE k,aT k.op) 1);obtain⟨P2,hP2⟩:=AH (aN (aE k',aT k'.op) 2);simp only[<-hP1] at q1 l1 ⊢;simp only[<-hP2] at q2 l2 ⊢;clear hP1 hP2;have hkl:s.l=2:=hk.len;refine f0C ok D.q138 rfl ?_;conv=>whnf
  repeat' ((first|refine hix1 _ _ rfl ?_|refine hix2 _ _ rfl ?_|((first|apply oI.z|apply cI.z))|refine⟨fun _=>aJ.o Ab,?_⟩|intro (_:Nat)|(show LdN _ _ _ _ _;first|(refine LdN.hasN [.int .i64 op1,.int .i64 ar1,.bool ng1,nn1.val,dd1.val,.string (txt nm1),ss1.val] rfl (fun i v hv=>hld1 _ _ i v Ad hv) ?_)|(refine LdN.hasN [.int .i64 op2,.int .i64 ar2,.bool ng2,nn2.val,dd2.val,.string (txt nm2),ss2.val] rfl (fun i v hv=>hld2 _ _ i v Ad hv) ?_))|(show CN _ _ _ _ _ _;first|(refine CN.f rfl (q1 _ _ (hE1.mono Ad)) (fun v h' hl2 hr=>?_);subst hr)|(refine CN.f rfl (q2 _ _ (hE2.mono Ab)) (fun v h' hl2 hr=>?_);subst hr))|(show Cat _ _ _;first|(refine Cat.txt (a:=P1) (b:=[32,45,32]) rfl rfl Ap ?_)|(refine Cat.txt (a:=P1++[32,45,32]) (b:=P2) rfl rfl Ap ?_))|refine Ld.o 0 rfl rfl ?_|refine DrN.run Ak ?_|(apply aD<;>intro _<;>try (exfalso;omega)))<;>conv=>whnf)
  all_goals exact RN.a rfl
 .obtain⟨k,k',rfl⟩:=qE hnb.1 Ae;obtain⟨bl1,off1,op1,ar1,ng1,nn1,dd1,nm1,ss1,hE1,hld1,hln1,hix1⟩:=hk.kidP 0 _ rfl;obtain⟨bl2,off2,op2,ar2,ng2,nn2,dd2,nm2,ss2,hE2,hld2,hln2,hix2⟩:=hk.kidP 1 _ rfl;have hk1:=hx1 k (bD (j:=0) rfl) (bIw ..);have hk2:=hx1 k' (bD (j:=1) rfl) (bIz _ (bIw ..));have q1:=fun h vs w=>fW k hk1.1 (by have:=hk1.2;omega) 2 h vs w
  have q2:=fun h vs w=>fW k' hk2.1 (by have:=hk2.2;omega) 3 h vs w
  have l1:=fI (aE k,aT k.op) 2;have l2:=fI (aE k',aT k'.op) 3;have hl1:=hk1.2;have hl2:=hk2.2;rw[aE,aL,aL,aL];show Fn0 T _ _ _ fun v h'=>v=.string (txt (aN (aE k,aT k.op) 2++[32,42,32]++aN (aE k',aT k'.op) 3))
  clear hk1 hk2;obtain⟨P1,hP1⟩:=AH (aN (aE k,aT k.op) 2);obtain⟨P2,hP2⟩:=AH (aN (aE k',aT k'.op) 3);simp only[<-hP1] at q1 l1 ⊢;simp only[<-hP2] at q2 l2 ⊢;clear hP1 hP2;have hkl:s.l=2:=hk.len;refine f0C ok D.q138 rfl ?_;conv=>whnf
  repeat' ((first|refine hix1 _ _ rfl ?_|refine hix2 _ _ rfl ?_|((first|apply oI.z|apply cI.z))|refine⟨fun _=>aJ.o Ab,?_⟩|intro (_:Nat)|(show LdN _ _ _ _ _;first|(refine LdN.hasN [.int .i64 op1,.int .i64 ar1,.bool ng1,nn1.val,dd1.val,.string (txt nm1),ss1.val] rfl (fun i v hv=>hld1 _ _ i v Ad hv) ?_)|(refine LdN.hasN [.int .i64 op2,.int .i64 ar2,.bool ng2,nn2.val,dd2.val,.string (txt nm2),ss2.val] rfl (fun i v hv=>hld2 _ _ i v Ad hv) ?_))|(show CN _ _ _ _ _ _;first|(refine CN.f rfl (q1 _ _ (hE1.mono Ad)) (fun v h' hl2 hr=>?_);subst hr)|(refine CN.f rfl (q2 _ _ (hE2.mono Ab)) (fun v h' hl2 hr=>?_);subst hr))|(show Cat _ _ _;first|(refine Cat.txt (a:=P1) (b:=[32,42,32]) rfl rfl Ap ?_)|(refine Cat.txt (a:=P1++[32,42,32]) (b:=P2) rfl rfl Ap ?_))|refine Ld.o 0 rfl rfl ?_|refine DrN.run Ak ?_|(apply aD<;>intro _<;>try (exfalso;omega)))<;>conv=>whnf)
  all_goals exact RN.a rfl
 .obtain⟨k,k',rfl⟩:=qE hnb.1 Ae;obtain⟨bl1,off1,op1,ar1,ng1,nn1,dd1,nm1,ss1,hE1,hld1,hln1,hix1⟩:=hk.kidP 0 _ rfl;obtain⟨bl2,off2,op2,ar2,ng2,nn2,dd2,nm2,ss2,hE2,hld2,hln2,hix2⟩:=hk.kidP 1 _ rfl;have hk1:=hx1 k (bD (j:=0) rfl) (bIw ..);have hk2:=hx1 k' (bD (j:=1) rfl) (bIz _ (bIw ..));have q1:=fun h vs w=>fW k hk1.1 (by have:=hk1.2;omega) 2 h vs w
  have q2:=fun h vs w=>fW k' hk2.1 (by have:=hk2.2;omega) 3 h vs w
  have l1:=fI (aE k,aT k.op) 2;have l2:=fI (aE k',aT k'.op) 3;have hl1:=hk1.2;have hl2:=hk2.2;rw[aE,aL,aL,aL];show Fn0 T _ _ _ fun v h'=>v=.string (txt (aN (aE k,aT k.op) 2++[32,47,32]++aN (aE k',aT k'.op) 3))
  clear hk1 hk2;obtain⟨P1,hP1⟩:=AH (aN (aE k,aT k.op) 2);obtain⟨P2,hP2⟩:=AH (aN (aE k',aT k'.op) 3);simp only[<-hP1] at q1 l1 ⊢;simp only[<-hP2] at q2 l2 ⊢;clear hP1 hP2;have hkl:s.l=2:=hk.len;refine f0C ok D.q138 rfl ?_;conv=>whnf
  repeat' ((first|refine hix1 _ _ rfl ?_|refine hix2 _ _ rfl ?_|((first|apply oI.z|apply cI.z))|refine⟨fun _=>aJ.o Ab,?_⟩|intro (_:Nat)|(show LdN _ _ _ _ _;first|(refine LdN.hasN [.int .i64 op1,.int .i64 ar1,.bool ng1,nn1.val,dd1.val,.string (txt nm1),ss1.val] rfl (fun i v hv=>hld1 _ _ i v Ad hv) ?_)|(refine LdN.hasN [.int .i64 op2,.int .i64 ar2,.bool ng2,nn2.val,dd2.val,.string (txt nm2),ss2.val] rfl (fun i v hv=>hld2 _ _ i v Ad hv) ?_))|(show CN _ _ _ _ _ _;first|(refine CN.f rfl (q1 _ _ (hE1.mono Ad)) (fun v h' hl2 hr=>?_);subst hr)|(refine CN.f rfl (q2 _ _ (hE2.mono Ab)) (fun v h' hl2 hr=>?_);subst hr))|(show Cat _ _ _;first|(refine Cat.txt (a:=P1) (b:=[32,47,32]) rfl rfl Ap ?_)|(refine Cat.txt (a:=P1++[32,47,32]) (b:=P2) rfl rfl Ap ?_))|refine Ld.o 0 rfl rfl ?_|refine DrN.run Ak ?_|(apply aD<;>intro _<;>try (exfalso;omega)))<;>conv=>whnf)
  all_goals exact RN.a rfl
 .obtain⟨k,rfl⟩:=uE hnb.1 Ae;obtain⟨bl1,off1,op1,ar1,ng1,nn1,dd1,nm1,ss1,hE1,hld1,hln1,hix1⟩:=hk.kidP 0 _ rfl;have hk1:=hx1 k (bD (j:=0) rfl) (bIw ..);have q1:=fun h vs low w=>fW k hk1.1 (by have:=hk1.2;omega) low h vs w
  have l1:=fI (aE k,aT k.op) 5;rw[aE,aL,aL];show Fn0 T _ _ _ fun v h'=>v=.string (txt ( aN (aE k,aT k.op) 5++([94]++itT arg)))
  have hl1:=hk1.2;clear hk1;replace q1:=fun h vs w=>q1 h vs 5 w
  obtain⟨P1,hP1⟩:=AH (aN (aE k,aT k.op) 5);simp only[<-hP1] at q1 l1 ⊢;clear hP1;have hkl:s.l=1:=hk.len;have n2:=hnb.2.1;have n3:=hnb.2.2.1;rw[show jC 9=-32 by decide] at n2
  rw[show eZ 9=32 by decide] at n3
  have hil:=tZ (n:=arg) Aa Aa;have dg:=fun h=>aC6 h arg Aa Aa
  rw[<-bIt];refine f0C ok D.q138 rfl ?_;conv=>whnf
  repeat' ((first|refine hix1 _ _ rfl ?_|((first|apply oI.z|apply cI.z))|refine⟨fun _=>aJ.o Ab,?_⟩|intro (_:Nat)|(show LdN _ _ _ _ _;(refine LdN.hasN [.int .i64 op1,.int .i64 ar1,.bool ng1,nn1.val,dd1.val,.string (txt nm1),ss1.val] rfl (fun i v hv=>hld1 _ _ i v Ad hv) ?_))|(show CN _ _ _ _ _ _;first|(refine CN.f rfl (q1 _ _ (hE1.mono Ad)) (fun v h' hl2 hr=>?_);subst hr)|(refine CN.f rfl (dg _) (fun v h' hl2 hr=>?_);subst hr))|(show Cat _ _ _;first|(refine Cat.txt (a:=P1) (b:=[94]) rfl rfl Ap ?_)|(refine Cat.txt (a:=P1++[94]) (b:=itT arg) rfl rfl Ap ?_))|refine Ld.o 0 rfl rfl ?_|refine DrN.run Ak ?_|(apply aD<;>intro _<;>try (exfalso;omega)))<;>conv=>whnf)
  all_goals exact RN.a rfl
 .have hks:ks.length<=3:=by
   have h1:=hnb.1;have h2:=fS op;omega
  have harg:-100<=arg/\arg<=100:=by
   have n2:=hnb.2.1;have n3:=hnb.2.2.1;unfold jC at n2;unfold eZ at n3
   repeat' split at n2
   all_goals (repeat' split at n3)
   all_goals omega
  have h11:op=11->1<=arg/\arg<=8:=fun e=>by
   have n2:=hnb.2.1;have n3:=hnb.2.2.1;rw[e] at n2 n3;rw[show jC 11=1 by decide] at n2
   rw[show eZ 11=8 by decide] at n3
   exact⟨n2,n3⟩
  have e:aE (.mk op arg neg l m name ks)=dR op arg++bR true (aL ks)++[41]:=by
   rw[aE,rT,if_neg Aa,if_neg Aa,if_neg Aa,if_neg Aa,if_neg Aa,if_neg Aa,if_neg Aa]
  rw[e] at hlen ⊢;rw[bIo,bIo] at hlen;have cc:=fun h hk=>aSk (fun k hm=>(hx1 k (by obtain⟨i,hi,rfl⟩:=List.mem_iff_getElem.1 hm;exact bD (bIq hi)) hm).1) hks h op arg hop harg h11 neg a b name s hk (by simp only[bIs,bIv] at hlen;omega)
  obtain⟨X,hX⟩:=AH (dR op arg++bR true (aL ks)++[41]);simp only[<-hX] at cc ⊢;clear hX hx1 hlen e;refine f0C ok D.q138 rfl ?_;conv=>whnf
  repeat' ((first|(show LdN _ _ _ _ _;refine LdN.oA 0 rfl rfl ?_)|(show CN _ _ _ _ _ _;(refine CN.f rfl (cc _ (hk.mono Ad)) (fun v h' hl2 hr=>?_);subst hr))|((first|apply oI.z|apply cI.z))|intro (_:Nat)|refine Ld.o 0 rfl rfl ?_|(apply aD<;>intro _<;>try (exfalso;omega)))<;>conv=>whnf)
  all_goals exact RN.a rfl
end Go.Proofs.Y