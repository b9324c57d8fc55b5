/- Literals of values: the law's own function. -/
import Derived.Test.YtblecjeceecaaaaGreatDoorE68
import Derived.Test.YtblecjeceecaaaaGreatDoorPV1
import Derived.Test.YtblecjeceecaaaaGreatDoorVcStop
set_option linter.all false
set_option maxHeartbeats 4000000
set_option maxRecDepth 20000
namespace Go.Proofs.Y
open Go Go.Vc Go.Dig
theorem zS(vals:List (List Nat × Rat)):(dS vals).map (·.1)=vals.map (·.1):=by
 unfold dS;rw[bL4];rfl
def BC(h:aA):List Value->List (List Nat × Tr)->Prop
 | xs,[]=>xs=[]
 | xs,(n,t)::bs=>∃vs ys,xs=(.string (txt n)::vs)++ys/\(∀y∈n,y<256)/\vs.length=7/\IsE h vs t/\BC h ys bs
theorem BC.mono{h h':aA}(hl:h.le h'):∀{bs:List (List Nat × Tr)} {xs:List Value},BC h xs bs->BC h' xs bs
 | [],_,e=>e
 | (_,_)::_,_,⟨vs,ys,e,b,l,i,r⟩=>⟨vs,ys,e,b,l,i.mono hl,BC.mono hl r⟩
theorem BC.snoc{h:aA}{n:List Nat}{vs:List Value}{t:Tr}(hb:∀y∈n,y<256)(hv:vs.length=7)(i:IsE h vs t):∀{bs:List (List Nat × Tr)} {xs:List Value},BC h xs bs->BC h (xs++(.string (txt n)::vs)) (bs++[(n,t)])
 | [],_,e=>⟨vs,[],by rw[show _=[] from e];simp,hb,hv,i,rfl⟩
 | (_,_)::_,_,⟨us,ys,e,b,l,j,r⟩=>⟨us,ys++(.string (txt n)::vs),by rw[e,bIt],b,l,j,BC.snoc hb hv i r⟩
theorem BC.isb{h:aA}{c:Array Value}:∀{bs:List (List Nat × Tr)} {xs:List Value} {off:Nat},BC h xs bs->(∀i,i<xs.length->c[off+i]?=xs[i]?)->yS h c off bs
 | [],_,_,_,_=>trivial
 | (n,t)::bs,xs,off,⟨vs,ys,e,b,l,j,r⟩,g=>by
  subst e;refine⟨⟨?_,b,vs,l,fun i hi=>?_,j⟩,BC.isb r fun i hi=>?_⟩
  .have:=g 0 Aq
   rwa [bJz] at this
  .have:=g (1+i) Ar;rw[<-bKd] at this;rw[this,bJ7,show 1+i=i+1 by omega,bLu,bI0 Aa]
  .have:=g (8+i) Ar;rw[<-bKd] at this;rw[this,bJ7,show 8+i=(7+i)+1 by omega,bLu,bJa Aa,show 7+i-vs.length=i by omega]
theorem RN.rowB{e:TypeId}{v:Value}{n:Nat}{xs:List Value}{acc:List (List Nat × Tr)}{h:aA}{X tl:Vc.Own}{R:Value->aA->Prop}(g:aF e 8 v n xs X)(k:BC h xs acc)(hn:n=acc.length)
  (hk:∀h' (s:Sl),h.le h'->v=s.val->IsB h' s acc->R v h'):RN v h (X++tl) fun v h' L'=>L'=[]/\R v h':=by
 obtain⟨g1,⟨rfl,rfl⟩|⟨i,b,cap,zs,rfl,h2,h3,h4⟩⟩:=g
 .obtain rfl:acc=[]:=bJp.1 hn.symm;exact RN.a (hk h ⟨none,0,0⟩ (aA.lr _) rfl ⟨rfl,bJf _,.inl rfl⟩)
 .have hlt:=(bIr.1 h2).1;refine RN.keep i (by rw[bI0 hlt];exact h2) fun hle=>?_
  refine RN.a (hk _ ⟨some ⟨b,0,none⟩,n,cap⟩ hle rfl ⟨hn,h3,.inr ⟨b,0,(xs++zs).toArray,e,(0,0),rfl,by simp[aA.put],BC.isb (k.mono hle) fun i hi=>?_⟩⟩)
  rw[bJc,bJj,bI0 hi]
theorem bG3{x:Option Rat}(h:x.isSome=true):aYd x=(mkL (x.getD 0),0):=by
 cases x with
 | none=>cases h
 | some q=>rfl
theorem aK1(bs:List (List Nat × Option Rat))(hbl:bs.length<=1048576)(hsm:iY bs)(sb:Sl)(h:aA)(tb:Tb h)(wb:IsV h sb bs):Fn0 T F.q27 [sb.val] h fun v h'=>∃s:Sl,v=s.val/\IsB h' s (dS (aS bs)):=by
 have hsl:=wb.len;have hll:(dS (aS bs)).length=bs.length:=by unfold dS aS;simp
 refine f0C ok D.q27 rfl ?_;conv=>whnf
 repeat ((first|apply oI.z|apply cI.z);conv=>whnf)
 skip
 refine LpN.of (fun r ρ hx L=>∃(j:Nat) (V:Value) (F1:Vc.Own) (xs:List Value),r=bs.length-j/\h.le hx/\j<=bs.length/\rd ρ 4=.int .i64 j/\rd ρ 3=V/\L=F1++[]/\aF 115 8 V j xs F1/\BC hx xs (dS (aS (bs.take j)))) bs.length
  ⟨0,_,[],[],rfl,aA.lr _,bJe _,rfl,rfl,rfl,aF.nil _ _ _,rfl⟩ ?_
 conv=>whnf
 repeat intro _
 rename_i r hx L2 hI;obtain⟨j,V,F1,xs,rfl,hle,hj,e4,e3,rfl,gF,hK⟩:=hI;conv at e4=>lhs;whnf
 subst e4;conv at e3=>lhs;whnf
 subst e3;by_cases hjl:j=bs.length
 .subst hjl;rw[bI4] at hK;conv=>whnf
  repeat' ((first|((first|apply oI.z|apply cI.z))|(apply aB<;>intro _<;>try (exfalso;omega)))<;>conv=>whnf)
  exact RN.rowB gF hK hll.symm fun h' s' hl hs hb=>⟨s',hs,hb⟩
 .obtain⟨⟨n,x⟩,hu⟩:∃x,bs[j]?=some x:=⟨_,bIq Aa⟩
  have wbx:=wb.mono hle;have hnb:=wb.bytes hu;have hx1:=hsm _ (bIu hu);have c1:=fun h tb n a b w=>aNn h tb n a b x w
  rw[bG3 hx1] at c1;have htk:dS (aS (bs.take (j+1)))=dS (aS (bs.take j))++[(n,mkL (x.getD 0))]:=by
   rw[aY hu,zR];unfold dS;rw[bI3];rfl
  obtain⟨Y,hY⟩:=AH (mkL (x.getD 0));simp only[<-hY] at c1 htk;replace c1:∀h,Tb h->∀n (a b:Sl),bP h n a b x->Fn0 T F.q68 [.agg #[.bool n,a.val,b.val]] h fun v h'=>∃a,v=.tuple #[a,.int .i64 0]/\VE h' a Y:=c1
  conv=>whnf
  repeat' ((first|(show LdN _ _ _ _ _;first|refine LdN.oA 0 rfl rfl ?_|(refine LdN.hasN [.bool ng,a2.val,b2.val] rfl (fun i v hv=>h2 _ _ i v Ad hv) ?_))|(show DrN _ _ _ _ _ _;refine DrN.own [_] (by exact List.Sublist.cons_cons _ (bJ9 _)) Ak ?_)|(refine⟨fun _=>⟨aJ.o As,by first|exact List.Sublist.cons_cons _ (bJ9 _)|exact List.Sublist.cons _ (List.Sublist.cons_cons _ (bJ9 _))|repeat first|exact bJ9 _|apply List.Sublist.cons_cons|refine List.Sublist.trans ?_ (bK6 _ _)|apply List.Sublist.cons⟩,?_⟩)|((first|apply oI.z|apply cI.z))|intro (_:Nat)|(show Idx _ _ _ _ _;refine Idx.valu wbx j n x Aa hu (fun bl off ng a2 b2 hnn hE h1 h2=>?_))|(show Ld _ _ _ _;refine Ld.of (h1 _ _ Ab) ?_)|(show CN _ _ _ _ _ _;(refine CN.f rfl (c1 _ Af _ _ _ Ab) (fun v h' hl2 hr=>?_);obtain⟨_,rfl,op4,ar4,ng4,nn4,dd4,nm4,ss4,rfl,hE4⟩:=hr;have hK2:=hK.mono hl2))|(show App _ _ _ _ _ _ _ _ _;refine App.growK (A:=[_,_]) (F:=F1) (size:=8) (bytes:=128) (z:=[.string (txt []),.int .i64 0,.int .i64 0,.bool false,.slice none 0 0,.slice none 0 0,.string (txt []),.slice none 0 0]) rfl rfl gF ⟨_,0,none⟩ 1 1 [_,_,_,_,_,_,_,_] rfl (Has.front _) rfl Ae Aa Aa Ae (fun v' F' g'=>?_))|refine WN.i64 Aa Aa ?_|refine Sto.l 0 rfl rfl rfl ?_|(apply aB<;>intro _<;>try (exfalso;omega)))<;>conv=>whnf)
  all_goals exact⟨rfl,bs.length-(j+1),Aa,j+1,_,_::_::F',_,rfl,Ac,Aa,vi Aa,rfl,rfl,(g'.cons _).cons _,by rw[htk];exact BC.snoc hnb rfl hE4 hK2⟩
end Go.Proofs.Y
/- Whether a tree is a polynomial; the law ExprSubstCongruent. -/
namespace Go.Proofs.Y
open Go Go.Vc Go.Dig
theorem aK2:∀{ts:List Tr},(∀t∈ts,nS t)->tH ts
 | [],_=>by rw[tH];trivial
 | t::ts,h=>by rw[tH];exact⟨h t (bIw ..),aK2 fun u hu=>h u (bIz _ hu)⟩
theorem aNq{p:Prop}[Decidable p](h:dec p=true):p:=by unfold dec at h;exact of_decide_eq_true h
noncomputable instance (t:Tr):Decidable (nS t):=Classical.propDecidable _
attribute [local irreducible] Vc.Fn FnP
theorem aYj:∀(t:Tr) (d:Nat),okT d t->∀(h:aA) (vs:List Value),IsE h vs t->Fn0 T F.q23 [.agg vs.toArray] h fun v h'=>v=.bool (dec (nS t)):=by
 refine eE fun t ih=>?_
 intro d hok h vs w;obtain⟨op,arg,neg,l,m,name,ks⟩:=t;obtain⟨a,b,s,rfl,ho,ha,hv,hb,hk⟩:=w.isK;rw[okT] at hok;have hkl:=hk.len;have hks:ks.length<=3:=by
  have h1:=hok.2.1.1;have h2:=fS op;omega
 obtain⟨B0,hB⟩:=AH (dec (nS (.mk op arg neg l m name ks)));have fT:(1<=op/\op<=7)\/(op=9/\0<=arg)->tH ks->B0=true:=fun x y=>hB.trans (aX (by rw[nS];exact⟨x,y⟩))
 have fA:¬((1<=op/\op<=7)\/(op=9/\0<=arg))->B0=false:=fun x=>hB.trans (aH fun y=>by rw[nS] at y;exact x y.1)
 have fK:∀t∈ks,¬nS t->B0=false:=fun t ht x=>hB.trans (aH fun y=>by rw[nS] at y;exact x (aEx y.2 ht))
 rw[<-hB];clear hB;replace fT:=Hq.mk fT;replace fA:=Hq.mk fA;replace fK:=Hq.mk fK;refine f0C ok D.q23 rfl ?_;conv=>whnf
 repeat ((first|apply oI.z|apply cI.z);conv=>whnf)
 intro be
 repeat' first|(refine cI.stopS 1 ?_)|((first|apply oI.z|apply cI.z);conv=>whnf)
 refine⟨bJ.cut (fun ρ hx Lx=>h.le hx/\Lx=[(be,.cells [.int .i64 op,.int .i64 arg,.bool neg,a.val,b.val,.string (txt name),s.val].toArray Ty.api_Expr (0,0))]/\Hq ((1<=op/\op<=7)\/(op=9/\0<=arg))) ?_ ?_⟩
 .conv=>whnf
  repeat' first|((first|(apply bJ.go)|((first|apply oI.z|apply cI.z))|refine Ld.o 0 rfl rfl ?_)<;>conv=>whnf)|(show cnd _ _ _;first|((first|apply aB|apply aD)<;>intro _<;>first|(exfalso;omega)|conv=>whnf))
  all_goals first
   | exact⟨rfl,Ad,rfl,⟨Aa⟩⟩
   | (have j:=fA.out Aa;exact RN.a (by rw[j]))
 conv=>whnf
 repeat intro _
 rename_i h1 L1 hJ;obtain⟨hle1,rfl,hop⟩:=hJ;have fT2:=fT.out hop.out;clear fA fT;replace fT2:=Hq.mk fT2;conv=>whnf
 repeat ((first|apply oI.z|apply cI.z);conv=>whnf)
 skip
 refine LpN.keepL (fun r ρ hx=>∃j:Nat,r=ks.length-j/\j<=ks.length/\rd ρ 3=.int .i64 j/\Hq (∀u∈ks.take j,nS u)) ks.length ⟨0,rfl,bJe _,rfl,⟨fun u hu=>by rw[bKq] at hu;cases hu⟩⟩ ?_
 conv=>whnf
 repeat intro _
 rename_i r hx hle hI;obtain⟨j,rfl,hj,e3,hq⟩:=hI;conv at e3=>lhs;whnf
 subst e3;have hkx:=hk.mono (aA.lt hle1 hle);by_cases hjl:j=ks.length
 .rw[hjl,bI4] at hq;have hB:=fT2.out (aK2 hq.out);conv=>whnf
  repeat' ((first|((first|apply oI.z|apply cI.z))|refine Ld.o 0 rfl rfl ?_|(apply aB<;>intro _<;>try (exfalso;omega)))<;>conv=>whnf)
  all_goals exact RN.a (by rw[hB])
 .obtain⟨t,ht⟩:∃t,ks[j]?=some t:=⟨_,bIq Aa⟩
  have htm:=bIu ht;have c2:=fun h vs w=>ih t (bD ht) (d+1) (eF hok.2.2 htm) h vs w
  have y1:=fK.out t htm;have y2:nS t->∀u∈ks.take (j+1),nS u:=fun x u hu=>by
   rw[aY ht] at hu;rcases bIx.1 hu with hu|hu
   .exact hq.out u hu
   .rw[bI2] at hu;subst hu;exact x
  obtain⟨D0,hD⟩:=AH (dec (nS t));rw[<-hD] at c2;replace y1:D0=false->B0=false:=fun x=>y1 fun z=>by rw[hD,aX z] at x;cases x
  replace y2:Hq (D0=true->∀u∈ks.take (j+1),nS u):=⟨fun x=>y2 (aNq (by rw[<-hD];exact x))⟩
  clear hD fK fT2 hq ih;replace y1:=Hq.mk y1;conv=>whnf
  repeat' first|((first|(show Idx _ _ _ _ _;refine Idx.kid hkx j t Aa ht (fun ad op3 arg3 neg3 a3 b3 name3 s3 hE hld=>?_))|(refine hld _ _ _ Ad ?_)|((first|apply oI.z|apply cI.z))|(show CN _ _ _ _ _ _;(refine CN.f rfl (c2 _ _ (hE.mono Ad)) (fun v h' hl hr=>?_);subst hr))|refine WN.i64 Aa Aa ?_|refine Ld.o 0 rfl rfl ?_)<;>conv=>whnf)|(show cnd _ _ _;first|(apply aB<;>intro _<;>first|(exfalso;omega)|conv=>whnf)|(refine aI ?_)|(refine bO (fun hb=>?_) (fun hb=>?_)<;>(first|cases hb|subst hb)<;>(conv=>whnf)))
  all_goals first
   | exact⟨rfl,ks.length-(j+1),Aa,Ac,rfl,j+1,rfl,Aa,vi Aa,⟨y2.out rfl⟩⟩
   | (have j:=y1.out rfl;exact RN.a (by rw[j]))
theorem bB0(vals:List (List Nat × Rat)){t u:Tr}(ht:bB t)(hu:bB u)(pt:nS t)(pu:nS u)(h:unP t=unP u):unP (lK (byM (dS vals)) t)=unP (lK (byM (dS vals)) u):=by
 have e1:=(aWv vals t 1 (bJf _) ht.1 pt).2.2;have e2:=(aWv vals u 1 (bJf _) hu.1 pu).2.2;rw[h] at e1;exact aU8 (aWw _) (aWw _) fun f=>(e1 f).trans (e2 f).symm
theorem aK3{bs:List (List Nat × Option Rat)}{t:Tr}(hv:∀b∈aS bs,fits b.2)(h1:bB t)(h2:eS bs)(h:(iS (dS (aS bs)) t).2=0):unP (iS (dS (aS bs)) t).1=unP (lK (byM (dS (aS bs))) t):=by
 have b1:nN (dS (aS bs)):=fun b hb=>by
  unfold dS at hb;obtain⟨x,hx,rfl⟩:=List.mem_map.1 hb;exact aX8 (hv x hx)
 have b2:eS (dS (aS bs)):=by
  refine⟨fun b hb=>?_,by rw[zS,mT];exact h2.2⟩
  have:b.1∈bs.map (·.1):=by
   rw[<-mT bs,<-zS];exact bJg hb
  obtain⟨y,hy,e⟩:=List.mem_map.1 this;rw[<-e];exact h2.1 y hy
 rw[aFa ⟨h1,b1⟩ b2] at h ⊢;by_cases hx:bB (lK (byM (dS (aS bs))) t)
 .have e:mF (lK (byM (dS (aS bs))) t)=(lC (lK (byM (dS (aS bs))) t),0):=if_pos hx;rw[e];exact bD8 _ _ (yR hx.1)
 .have e:mF (lK (byM (dS (aS bs))) t)=(bI,4):=if_neg hx;rw[e] at h;cases h
theorem aSi(t u:Tr)(h:aA)(vs us:List Value)(tb:Tb h)(pw:Pw h)(w:IsE h vs t)(w2:IsE h us u)(hr:unP t=unP u):Fn0 T F.q16 [.agg vs.toArray,.agg us.toArray] h fun v h'=>v=.bool true:=by
 have c1:=fun h tb pw w w2=>eU t u h vs us tb pw w w2
 have al:=aKh hr;unfold aHh at al;obtain⟨⟨X1,X2⟩,hX⟩:=AH (dI t u);simp only[<-hX] at c1 al;clear hX hr;have a2:X2=0->X1=true:=fun e=>by simpa[e] using al
 clear al;obtain⟨⟨o1,g1,e1,l1,m1,i1,ks1⟩,ht⟩:=AH t;obtain⟨a1,b1,z1,hvs,-⟩:=(ht.symm▸w:IsE h vs (.mk o1 g1 e1 l1 m1 i1 ks1)).isK;obtain⟨⟨o2,g2,e2,l2,m2,i2,ks2⟩,hu⟩:=AH u;obtain⟨a2',b2,z2,hus,-⟩:=(hu.symm▸w2:IsE h us (.mk o2 g2 e2 l2 m2 i2 ks2)).isK;subst hvs;subst hus;clear ht hu;refine f0C ok D.q16 rfl ?_;conv=>whnf
 repeat' first|((first|(show LdN _ _ _ _ _;first|refine LdN.oA 0 rfl rfl ?_|refine LdN.oA 1 rfl rfl ?_)|(show CN _ _ _ _ _ _;(refine CN.f rfl (c1 _ Ab (pw.mono Ad) (w.mono Ad) (w2.mono Ad)) (fun v h' hl hr=>?_);subst hr))|((first|apply oI.z|apply cI.z))|intro (_:Nat))<;>conv=>whnf)|(show cnd _ _ _;first|(apply aD<;>intro _<;>first|(exfalso;omega)|conv=>whnf)|(refine aI ?_))
 all_goals first
  | exact RN.a rfl
  | exact RN.a (congrArg Value.bool (a2 Aa))
theorem vX(h:aA)(tb:Tb h)(pw:Pw h)(t:Tr)(vs:List Value)(w:IsE h vs t)(u:Tr)(us:List Value)(w2:IsE h us u)(sb:Sl)(bs:List (List Nat × Option Rat))(wb:IsV h sb bs)(hbl:bs.length<=1048576):Fn0 T F.q9 [.agg vs.toArray,.agg us.toArray,sb.val] h fun v h'=>v=.bool true:=by
 have hv:=nV wb;have hll:(dS (aS bs)).length=bs.length:=by unfold dS aS;simp
 have c1:=fun h tb pw w w2=>eU t u h vs us tb pw w w2
 have c2:=fun h tb wb w=>xW bs Aa sb t h vs tb wb w
 have c3:=fun h tb wb (x:(jN bs t).2.2=0)=>aK1 bs hbl (xX x).2.2 sb h tb wb
 have c4:=fun h s tb wb w=>aKx (dS (aS bs)) Aa s t h vs tb wb w
 have c5:=fun h s tb wb w=>aKx (dS (aS bs)) Aa s u h us tb wb w
 have ok2:(dI t u).2=0->bB t/\bB u:=fun x=>by obtain⟨-,-,h1,h2,-⟩:=rO x;exact⟨h1,h2⟩
 have c6:=fun h w (x:(dI t u).2=0)=>aYj t 1 (ok2 x).1.1 h vs w
 have c7:=fun h w (x:(dI t u).2=0)=>aYj u 1 (ok2 x).2.1 h us w
 have c9:=fun h tb pw=>uA h tb pw
 have key:dI t u=(true,0)->dec (nS t)=true->dec (nS u)=true->(jN bs t).2.2=0->(iS (dS (aS bs)) t).2=0->(iS (dS (aS bs)) u).2=0->unP (iS (dS (aS bs)) t).1=unP (iS (dS (aS bs)) u).1:=fun x1 x2 x3 x4 x5 x6=>by
  obtain⟨p,q,ht,hu,e1,e2,e3⟩:=rO (t:=t) (u:=u) (by rw[x1]);rw[x1] at e3;have e4:p=q:=of_decide_eq_true (congrArg Prod.fst e3).symm;subst e4;obtain⟨-,n,-⟩:=xX x4;rw[aK3 hv ht n x5,aK3 hv hu n x6];exact bB0 _ ht hu (aNq x2) (aNq x3) (by rw[aAu t e1,aAu u e2])
 have c8:=fun h xs ys tb pw w w2 e=>aSi (iS (dS (aS bs)) t).1 (iS (dS (aS bs)) u).1 h xs ys tb pw w w2 e
 obtain⟨⟨X1,X2⟩,hX⟩:=AH (dI t u);obtain⟨⟨A1,A2,A3⟩,hA⟩:=AH (jN bs t);obtain⟨⟨Y1,Y2⟩,hY⟩:=AH (iS (dS (aS bs)) t);obtain⟨⟨Z1,Z2⟩,hZ⟩:=AH (iS (dS (aS bs)) u);obtain⟨D1,hD1⟩:=AH (dec (nS t));obtain⟨D2,hD2⟩:=AH (dec (nS u));rw[<-hX,<-hA,<-hY,<-hZ,<-hD1,<-hD2] at key;simp only[<-hX] at c1 c6 c7;simp only[<-hA] at c2 c3;simp only[<-hY] at c4 c8;simp only[<-hZ] at c5 c8;simp only[<-hD1] at c6;simp only[<-hD2] at c7;replace c2:∀h,Tb h->IsV h sb bs->IsE h vs t->Fn0 T F.q17 [.agg vs.toArray,sb.val] h fun v h'=>∃a b:Sl,v=.tuple #[.agg #[.bool (sg A1),a.val,b.val],.bool A2,.int .i64 A3]/\eA h' a b A1:=c2
 replace c3:∀h,Tb h->IsV h sb bs->A3=0->Fn0 T F.q27 [sb.val] h fun v h'=>∃s:Sl,v=s.val/\IsB h' s (dS (aS bs)):=c3
 replace c4:∀h s,Tb h->IsB h s (dS (aS bs))->IsE h vs t->Fn0 T F.q28 [.agg vs.toArray,Sl.val s] h fun v h'=>∃a,v=.tuple #[a,.int .i64 Y2]/\VE h' a Y1:=c4
 replace c5:∀h s,Tb h->IsB h s (dS (aS bs))->IsE h us u->Fn0 T F.q28 [.agg us.toArray,Sl.val s] h fun v h'=>∃a,v=.tuple #[a,.int .i64 Z2]/\VE h' a Z1:=c5
 replace key:Hq (X1=true->X2=0->D1=true->D2=true->A3=0->Y2=0->Z2=0->unP Y1=unP Z1):=⟨fun x1 x2 x3 x4 x5 x6 x7=>key (by rw[x1,x2]) x3 x4 x5 x6 x7⟩
 obtain⟨S,hS⟩:=AH (sg A1);simp only[<-hS] at c2;obtain⟨LB,hLB⟩:=AH (dS (aS bs));simp only[<-hLB] at c3 c4 c5;clear hX hA hY hZ hD1 hD2 hS hLB ok2 hll;obtain⟨⟨o1,g1,e1,l1,m1,i1,ks1⟩,ht⟩:=AH t;obtain⟨a1,b1,z1,hvs,-⟩:=(ht.symm▸w:IsE h vs (.mk o1 g1 e1 l1 m1 i1 ks1)).isK;obtain⟨⟨o2,g2,e2,l2,m2,i2,ks2⟩,hu⟩:=AH u;obtain⟨a2,b2,z2,hus,-⟩:=(hu.symm▸w2:IsE h us (.mk o2 g2 e2 l2 m2 i2 ks2)).isK;subst hvs;subst hus;clear ht hu;refine f0C ok D.q9 rfl ?_;conv=>whnf
 repeat' first|((first|(show LdN _ _ _ _ _;first|refine LdN.oA 0 rfl rfl ?_|refine LdN.oA 1 rfl rfl ?_|refine LdN.oA 2 rfl rfl ?_)|(show CN _ _ _ _ _ _;first|(refine CN.f rfl (c1 _ Ab (pw.mono Ad) (w.mono Ad) (w2.mono Ad)) (fun v h' hl hr=>?_);subst hr)|(refine CN.f rfl (c6 _ (w.mono Ab) Aa) (fun v h' hl hr=>?_);subst hr)|(refine CN.f rfl (c7 _ (w2.mono Ac) Aa) (fun v h' hl hr=>?_);subst hr)|(refine CN.f rfl (c2 _ Af (wb.mono Ac) (w.mono Ac)) (fun v h' hl2 hr=>?_);obtain⟨a5,b5,rfl,hq5⟩:=hr)|(refine CN.f rfl (c3 _ Af (wb.mono Ac) Aa) (fun v h' hl2 hr=>?_);obtain⟨s6,rfl,wl6⟩:=hr)|(refine CN.f rfl (c4 _ s6 Af (wl6.mono Ad) (w.mono Ac)) (fun v h' hl2 hr=>?_);obtain⟨_,rfl,op6,ar6,ng6,nn6,dd6,nm6,ss6,rfl,hE6⟩:=hr)|(refine CN.f rfl (c5 _ s6 Af (wl6.mono Ab) (w2.mono Ac)) (fun v h' hl2 hr=>?_);obtain⟨_,rfl,op7,ar7,ng7,nn7,dd7,nm7,ss7,rfl,hE7⟩:=hr)|(refine CN.f rfl (c8 _ _ _ Af (pw.mono Ac) (hE6.mono Ac) (hE7.mono Ab) (key.out rfl Aa rfl rfl Aa Aa Aa)) (fun v h' hl hr=>?_);subst hr)|(refine CN.f rfl (c9 _ Af (pw.mono Ac)) (fun v h' hl hr=>?_);subst hr))|((first|apply oI.z|apply cI.z))|intro (_:Nat)|refine Sto.l 0 rfl rfl rfl ?_)<;>conv=>whnf)|(show cnd _ _ _;first|(apply aD<;>intro _<;>first|(exfalso;omega)|conv=>whnf)|(refine aI ?_)|(refine bO (fun hb=>?_) (fun hb=>?_)<;>(first|cases hb|subst hb)<;>(conv=>whnf)))
 all_goals exact RN.a rfl
end Go.Proofs.Y