/- Sums, products, reciprocals of forms: the program. -/
import Derived.Test.YtdccpmlhflpeaaaGreatDoorPJ4
set_option linter.all false
set_option maxHeartbeats 8000000
set_option maxRecDepth 20000
namespace Go.Vc
open Go Go.Dig
theorem App.growM{T:Tab}{e:TypeId}{size bytes:Nat}{s:Value}{h:aA}{A Fx:Vc.Own}{k:Value->aA->Vc.Own->Prop}{z:List Value}{n:Nat}{xs:List Value}
  (hi:T.inf e=some (z,bytes)) (hz:z.length=size) (g:aE e size s n xs Fx)
  (ad:Addr) (m c:Nat) (news:List Value) (hl:news.length=m*size) (hnews:∀j,j<news.length->Has h (A++Fx) (ad.add j) (news.getD j undef)) (ho:news.all gC=true)
  (hm0:0<m) (hm:n+m<=70368744177664) (hby:(n+m)*bytes<=140737488355328) (hsz:0<size)
  (hk:∀v' F',aE e size v' (n+m) (xs++news) F'->(∀x∈A,x∈F')->k v' h F'):App T e size bytes s (.slice (some ad) m c) h (A++Fx) k:=by
 have:=App.growA (tl:=[]) hi hz g ad m c news hl (by rw[bDg];exact hnews) ho hm0 hm hby hsz (k:=k) (fun v' F' g' hA=>by rw[bDg];exact hk v' F' g' hA)
 rwa [bDg] at this
end Go.Vc
namespace Go.Proofs.Y
open Go Go.Vc Go.Dig
attribute [local irreducible] Vc.Fn FnP
theorem aE0(h:aA)(tb:Tb h)(s1 s2:Sl)(a b:Pol)(k:Int)(hk:k=1\/k=-1)(w1:qK h s1 a)(w2:qK h s2 b)(g1:rI a)(g2:rI b):FP F.q147 [s1.val,s2.val,.int .i64 k] h (cV (plL a b (k:Rat))):=by
 obtain⟨l1,e1,r1,t1⟩:=w1;obtain⟨l2,e2,r2,t2⟩:=w2;have hl1:l1.length<=200:=by have:=g1.len;rw[<-e1,bDt] at this;exact this
 have hl2:l2.length<=200:=by have:=g2.len;rw[<-e2,bDt] at this;exact this
 have z1:∀x∈l1,Sz 64 x.q:=fun x hx=>tO (g1.fit (pq x) (by rw[<-e1];exact bDy hx))
 have z2:∀x∈l2,Sz 64 x.q:=fun x hx=>tO (g2.fit (pq x) (by rw[<-e2];exact bDy hx))
 have hs2:s2.l=l2.length:=by have:=r2.len;rw[cU] at this;omega
 have zk:=bAq hk;have hkb:-9223372036854775808<=k/\k<=9223372036854775807:=Aa;have c1:=aOo h s1 l1 r1 Aa;obtain⟨r,hr⟩:=AB (cV (plL a b (k:Rat)));rw[<-hr];obtain⟨K,hK⟩:∃K:Rat,K=(k:Rat):=⟨_,rfl⟩
 have c2:=fun h=>uD h k hkb.1 hkb.2
 rw[<-hK] at hr zk;simp only[<-hK] at c2;unfold FP;refine fPC ok _ D.q147 rfl ?_;conv=>whnf
 repeat' ((first|(show CN _ _ _ _ _ _;(refine CN.new rfl (Fn.wP c1) (fun v h' La hl hr'=>?_);obtain⟨rfl,g⟩:=hr';clear hl))|((first|apply oI.z|apply cI.z)))<;>conv=>whnf)
 refine LpN.of (fun r ρ hx L=>∃(i:Nat) (M:List El) (v:Value),r=l2.length-i/\h'.le hx/\i<=l2.length/\rd ρ 14=.int .i64 i/\rd ρ 7=v/\aE Ty.expr_term 4 v (l1.length+i) (fl (l1++M)) L/\M.length=i/\Hq (M.map pq=((l2.take i).map pq).map fun t=>(t.1,t.2*K))/\Hq (∀x∈l1++M,TmW hx x/\Sz 130 x.q)) l2.length
  ⟨0,[],_,rfl,aA.lr _,bDw _,rfl,rfl,by rw[bDg,bDg];exact g,rfl,⟨rfl⟩,⟨fun x hx=>by rw[bDg] at hx;exact⟨t1 x hx,(z1 x hx).mono Ad⟩⟩⟩ ?_
 clear g;conv=>whnf
 repeat intro _
 rename_i q2 h2 L2 hI;obtain⟨i,M,v,rfl,hle,hi,e14,e7,g,hM,⟨hq⟩,⟨hw⟩⟩:=hI;conv at e7=>lhs;whnf
 subst e7;conv at e14=>lhs;whnf
 subst e14;have r2x:=r2.mono hle;replace tb:=tb.mono hle;by_cases hil:i=l2.length
 .have hr2:cV ((l1++M).map pq)=r:=by
   rw[hr,bDl,hq,hil,bDm,e1,e2];rfl
  conv=>whnf
  repeat' ((first|refine vD tb g (by rw[bC6,hM]) Aa hw hr2 (fun p s h' L' hl e w=>?_) (fun n e=>e)|((first|apply oI.z|apply cI.z))|(apply aB<;>intro _<;>try (exfalso;omega)))<;>conv=>whnf)
  exact RN.a (R:=vC r) ⟨p,s,e,rfl,w⟩
 .obtain⟨x,hx⟩:∃t,l2[i]?=some t:=⟨_,bC8 Aa⟩
  have wx:=(t2 x (bDc hx)).mono hle;have zx:=z2 x (bDc hx);have hsn:=bD hx;obtain⟨xn,xa,xd,xf,xm,xq⟩:=x;obtain rfl:xn=sg xq:=wx.sg;have c3:=fun h tb (c d:Sl) w1 w2=>xQ h tb xa xd c d xq K w1 w2 (zx.mono Ad) (zk.mono Ad)
  have wxf:=wx.fr;conv=>whnf
  repeat' ((first|(show Idx _ _ _ _ _;refine Idx.el r2x i _ Aa hx (fun ab ao aw=>?_))|(show LdN _ _ _ _ _;first|(refine LdN.el4 aw Af ?_)|refine LdN.oA 0 rfl rfl ?_)|(show DrN _ _ _ _ _ _;refine DrN.own [_] (List.Sublist.cons_cons _ (bE1 _)) Al ?_)|refine⟨fun _=>⟨aH.o (aA.lr _),List.singleton_sublist.2 (hA _ (bDh _ (bDe)))⟩,?_⟩|(refine⟨fun _=>⟨aH.o As,by repeat first|exact bE1 _|apply List.Sublist.cons_cons|refine List.Sublist.trans ?_ (bHf _ _)|apply List.Sublist.cons⟩,?_⟩)|((first|apply oI.z|apply cI.z))|intro (_:Nat)|(show CN _ _ _ _ _ _;first|(refine CN.f rfl (Fn0.wP (c2 _)) (fun v h' hl hr'=>?_);obtain⟨i1,i2,rfl,hi'⟩:=hr')|(refine CN.f rfl (Fn0.wP (c3 _ Ae _ _ (wxf.mono Ab) Ab)) (fun v h' hl hr'=>?_);obtain⟨m1,m2,rfl,hm'⟩:=hr'))|(show App _ _ _ _ _ _ _ _ _;refine App.growM (A:=[_,_]) (Fx:=L2) (size:=4) (bytes:=80) (z:=[.bool false,.slice none 0 0,.slice none 0 0,.slice none 0 0]) rfl rfl g ⟨_,0,none⟩ 1 1 [_,_,_,_] rfl (Has.four _) rfl Ad Aa Aa Ad (fun v' F' g' hA=>?_))|refine WN.i64 Aa Aa ?_|refine Ld.o 0 rfl rfl ?_|refine Sto.l 0 rfl rfl rfl ?_|(apply aB<;>intro _<;>try (exfalso;omega)))<;>conv=>whnf)
  .have hMx:(M++[(⟨sg (xq*K),m1,m2,xf,xm,xq*K⟩:El)]).map pq=((l2.take (i+1)).map pq).map fun t=>(t.1,t.2*K):=by
    rw[bDl,hq,hsn,bDl,bDl];rfl
   exact⟨rfl,l2.length-(i+1),Aa,i+1,M++[⟨sg (xq*K),m1,m2,xf,xm,xq*K⟩],_,rfl,Ac,Aa,vi Aa,rfl,by rw[<-bDb];exact aE.el g',by rw[bC6,hM];rfl,⟨hMx⟩,⟨fun x hx=>by
     rw[<-bDb] at hx;rcases bDf.1 hx with hx|hx
     .exact⟨(hw x hx).1.mono Ac,(hw x hx).2⟩
     .rw[bDk] at hx;subst hx;exact⟨⟨hm',rfl,⟨wx.fac.rw.mono Ac,wx.fac.len⟩⟩,(Sz.mul zx zk).mono Ad⟩⟩⟩
theorem aHs(h:aA)(tb:Tb h)(S:List (List UInt8))(hS:S.length<=100000)(hSo:Sok S)(s1 s2:Sl)(a b:Pol)(w1:qK h s1 a)(w2:qK h s2 b)(g1:PG S a)(g2:PG S b):FP F.q148 [s1.val,s2.val] h (cV (tmL a b)):=by
 have pl1:=g1.len;have pl2:=g2.len;have pk1:=g1.key;have pk2:=g2.key;obtain⟨l1,e1,r1,t1⟩:=w1;obtain⟨l2,e2,r2,t2⟩:=w2;have hl1:l1.length<=200:=by have:=g1.good.len;rw[<-e1,bDt] at this;exact this
 have hl2:l2.length<=200:=by have:=g2.good.len;rw[<-e2,bDt] at this;exact this
 have mm1:∀x∈l1,pq x∈a:=fun x hx=>by rw[<-e1];exact bDy hx
 have mm2:∀x∈l2,pq x∈b:=fun x hx=>by rw[<-e2];exact bDy hx
 have z1:∀x∈l1,Sz 64 x.q:=fun x hx=>tO (g1.good.fit (pq x) (mm1 x hx))
 have z2:∀x∈l2,Sz 64 x.q:=fun x hx=>tO (g2.good.fit (pq x) (mm2 x hx))
 have hs1:s1.l=l1.length:=by have:=r1.len;rw[cU] at this;omega
 have hs2:s2.l=l2.length:=by have:=r2.len;rw[cU] at this;omega
 have hj:∀x∈l1,∀y∈l2,x.m.length+y.m.length<=1000000/\(∀t∈x.m++y.m,t.2<=1000/\t.1.length<=4000)/\(jn x.m y.m).length<=1099511627776:=fun x hx y hy=>by
  have a1:=pl1 _ (mm1 x hx);have a2:=pl2 _ (mm2 y hy);dsimp only[pq] at a1 a2;refine⟨Aa,fun t ht=>?_,bDv (bAj _ _) Aa⟩
  rcases bDf.1 ht with ht|ht
  .exact⟨bDv (g1.good.deg _ (mm1 x hx) t ht) Ad,hSo _ (pk1 _ (mm1 x hx) t ht)⟩
  .exact⟨bDv (g2.good.deg _ (mm2 y hy) t ht) Ad,hSo _ (pk2 _ (mm2 y hy) t ht)⟩
 have hprod:l1.length*l2.length<=40000:=bFf hl1 hl2;obtain⟨r,hr⟩:=AB (cV (tmL a b));rw[<-hr];clear pl1 pl2 pk1 pk2 mm1 mm2 g1 g2 hSo hS;unfold FP;refine fPC ok _ D.q148 rfl ?_;conv=>whnf
 repeat ((first|apply oI.z|apply cI.z);conv=>whnf)
 skip
 refine LpN.of (fun r ρ hx L=>∃(i:Nat) (M:List El) (v:Value),r=l1.length-i/\h.le hx/\i<=l1.length/\rd ρ 12=.int .i64 i/\rd ρ 5=v/\aE Ty.expr_term 4 v M.length (fl M) L/\M.length=i*l2.length/\Hq (M.map pq=tmL ((l1.take i).map pq) b)/\Hq (∀x∈M,TmW hx x/\Sz 130 x.q)) l1.length
  ⟨0,[],_,rfl,aA.lr _,bDw _,rfl,rfl,aE.nil _ _ _,(bEv _).symm,⟨rfl⟩,⟨fun x hx=>by cases hx⟩⟩ ?_
 conv=>whnf
 repeat intro _
 rename_i q2 h2 L2 hI;obtain⟨i,M,v,rfl,hle,hi,e12,e5,g,hM,⟨hq⟩,⟨hw⟩⟩:=hI;conv at e5=>lhs;whnf
 subst e5;conv at e12=>lhs;whnf
 subst e12;have r1x:=r1.mono hle;have tb2:=tb.mono hle;have hML:M.length<=40000:=by rw[hM];exact bDv (bDq _ hi) hprod
 by_cases hil:i=l1.length
 .have hr2:cV (M.map pq)=r:=by rw[hr,hq,hil,bDm,e1]
  obtain⟨N1,hN1⟩:=AB l1.length;rw[<-hN1] at hil hs1 ⊢;conv=>whnf
  repeat' ((first|refine vD tb2 g rfl Aa hw hr2 (fun p s h' L' hl e w=>?_) (fun n e=>e)|((first|apply oI.z|apply cI.z))|(apply aB<;>intro _<;>try (exfalso;omega)))<;>conv=>whnf)
  exact RN.a (R:=vC r) ⟨p,s,e,rfl,w⟩
 .obtain⟨x,hx⟩:∃t,l1[i]?=some t:=⟨_,bC8 Aa⟩
  have hxm:=bDc hx;have wx:=(t1 x hxm).mono hle;have zx:=z1 x hxm;have hjx:=hj x hxm;have hsn:=bD hx;have htm:tmL ((l1.take (i+1)).map pq) b=tmL ((l1.take i).map pq) b++b.map fun y=>(jn x.m y.1,x.q*y.2):=by
   rw[hsn,bDl];unfold tmL;rw[List.flatMap_append]
   congr 1
   show (b.map fun y=>(jn x.m y.1,x.q*y.2))++[]=_
   rw[bDg]
  obtain⟨xn,xa,xd,xf,xm,xq⟩:=x;obtain rfl:xn=sg xq:=wx.sg;dsimp only at htm zx hjx;conv=>whnf
  repeat' ((first|(show Idx _ _ _ _ _;refine Idx.el r1x i _ Aa hx (fun ab ao aw=>?_))|(show LdN _ _ _ _ _;(refine LdN.el4 aw Af ?_))|((first|apply oI.z|apply cI.z))|intro (_:Nat)|refine Sto.l 0 rfl rfl rfl ?_|(apply aB<;>intro _<;>try (exfalso;omega)))<;>conv=>whnf)
  refine LpN.keep0 fun h3 hl3 hb3=>?_
  have awx:aTk h3 _ 0 ⟨sg xq,xa,xd,xf,xm,xq⟩:=fun h' L k v hl hk hv=>Has.imm (hl _ _ hb3) (by rw[bDu];show (⟨sg xq,xa,xd,xf,xm,xq⟩:El).cells.toArray[k]?=_;rw[bD1];exact hv)
  replace tb2:=tb2.mono hl3;replace wx:=wx.mono hl3;have r2x:=r2.mono (aA.lt hle hl3);have hle3:=aA.lt hle hl3;refine LpN.of (fun r ρ hx L=>∃(k:Nat) (M2:List El) (v:Value),r=l2.length-k/\h3.le hx/\k<=l2.length/\rd ρ 18=.int .i64 k/\rd ρ 5=v/\aE Ty.expr_term 4 v (M.length+k) (fl (M++M2)) L/\M2.length=k/\Hq (M2.map pq=((l2.take k).map pq).map fun y=>(jn xm y.1,xq*y.2))/\Hq (∀x∈M++M2,TmW hx x/\Sz 130 x.q)) l2.length
   ⟨0,[],_,rfl,aA.lr _,bDw _,rfl,rfl,by rw[bDg];exact g,rfl,⟨rfl⟩,⟨fun x hx=>by rw[bDg] at hx;exact⟨(hw x hx).1.mono hl3,(hw x hx).2⟩⟩⟩ ?_
  clear g hw hb3;conv=>whnf
  repeat intro _
  rename_i q4 h4 L4 hI;obtain⟨k,M2,v,rfl,hle4,hk,e18,e5,g,hM2,⟨hq2⟩,⟨hw⟩⟩:=hI;conv at e5=>lhs;whnf
  subst e5;conv at e18=>lhs;whnf
  subst e18;have tb4:=tb2.mono hle4;have r2y:=r2x.mono hle4;by_cases hkl:k=l2.length
  .have hq3:(M++M2).map pq=tmL ((l1.take (i+1)).map pq) b:=by rw[htm,bDl,hq,hq2,hkl,bDm,e2]
   have hM3:(M++M2).length=(i+1)*l2.length:=by rw[bC6,hM,hM2,hkl,bEc,bGe]
   have g3:=g;rw[<-hM2,<-bC6] at g3;obtain⟨N2,hN2⟩:=AB l2.length;obtain⟨N1,hN1⟩:=AB l1.length;rw[<-hN2] at hkl hs2 hM3 ⊢;rw[<-hN1] at hi hil ⊢;conv=>whnf
   repeat' ((first|((first|apply oI.z|apply cI.z))|refine WN.i64 Aa Aa ?_|(apply aB<;>intro _<;>try (exfalso;omega)))<;>conv=>whnf)
   exact⟨rfl,N1-(i+1),Aa,i+1,M++M2,_,rfl,Ac,Aa,vi Aa,rfl,g3,hM3,⟨hq3⟩,⟨hw⟩⟩
  .obtain⟨y,hy⟩:∃t,l2[k]?=some t:=⟨_,bC8 Aa⟩
   have hym:=bDc hy;have wy:=(t2 y hym).mono (aA.lt hle3 hle4);have zy:=z2 y hym;have hjy:=hjx y hym;have hsn2:=bD hy;have hM2L:M.length+k<=40200:=Aa;obtain⟨yn,ya,yd,yf,ym,yq⟩:=y;obtain rfl:yn=sg yq:=wy.sg;dsimp only at hjy zy;have c3:=fun h tb w1 w2=>xQ h tb xa xd ya yd xq yq w1 w2 (zx.mono Ad) (zy.mono Ad)
   have c4:=fun h w1 w2=>aOz h xf yf xm ym w1 w2 hjy.1 hjy.2.1
   have wx4:=wx.mono hle4;have wxq:=wx4.fr;have wyq:=wy.fr;have wxf:=wx4.fac.rw;have wyf:=wy.fac.rw;obtain⟨J,hJ⟩:=AB (jn xm ym);simp only[<-hJ] at c4;conv=>whnf
   repeat' ((first|(show Idx _ _ _ _ _;refine Idx.el r2y k _ Aa hy (fun ab ao aw=>?_))|(show LdN _ _ _ _ _;first|(refine LdN.el4 aw Af ?_)|refine LdN.elq awx Ab ?_|refine LdN.oA 0 rfl rfl ?_)|(show DrN _ _ _ _ _ _;refine DrN.own [_] (List.Sublist.cons_cons _ (bE1 _)) Al ?_)|refine⟨fun _=>⟨aH.o (aA.lr _),List.singleton_sublist.2 (hA _ (bDh _ (bDe)))⟩,?_⟩|(refine⟨fun _=>⟨aH.o As,by repeat first|exact bE1 _|apply List.Sublist.cons_cons|refine List.Sublist.trans ?_ (bHf _ _)|apply List.Sublist.cons⟩,?_⟩)|((first|apply oI.z|apply cI.z))|intro (_:Nat)|(show Ld _ _ _ _;first|refine Ld.elf awx Ab ?_|refine Ld.o 0 rfl rfl ?_)|(show CN _ _ _ _ _ _;first|(refine CN.f rfl (Fn0.wP (c3 _ Ab (wxq.mono Af) (wyq.mono Af))) (fun v h' hl hr'=>?_);obtain⟨m1,m2,rfl,hm'⟩:=hr')|(refine CN.f rfl (Fn0.wP (c4 _ (wxf.mono Ab) (wyf.mono Ab))) (fun v h' hl hr'=>?_);obtain⟨sj,rfl,hj'⟩:=hr'))|(show App _ _ _ _ _ _ _ _ _;refine App.growM (A:=[_,_]) (Fx:=L4) (size:=4) (bytes:=80) (z:=[.bool false,.slice none 0 0,.slice none 0 0,.slice none 0 0]) rfl rfl g ⟨_,0,none⟩ 1 1 [_,_,_,_] rfl (Has.four _) rfl Ad Aa Aa Ad (fun v' F' g' hA=>?_))|refine WN.i64 Aa Aa ?_|refine Sto.l 0 rfl rfl rfl ?_|(apply aB<;>intro _<;>try (exfalso;omega)))<;>conv=>whnf)
   .have hMx:(M2++[(⟨sg (xq*yq),m1,m2,sj,J,xq*yq⟩:El)]).map pq=((l2.take (k+1)).map pq).map fun y=>(jn xm y.1,xq*y.2):=by
     rw[bDl,hq2,hsn2,bDl,bDl,hJ];rfl
    exact⟨rfl,l2.length-(k+1),Aa,k+1,M2++[⟨sg (xq*yq),m1,m2,sj,J,xq*yq⟩],_,rfl,Ac,Aa,vi Aa,rfl,by rw[<-bDb];exact aE.el g',by rw[bC6,hM2];rfl,⟨hMx⟩,⟨fun x hx=>by
      rw[<-bDb] at hx;rcases bDf.1 hx with hx|hx
      .exact⟨(hw x hx).1.mono Ac,(hw x hx).2⟩
      .rw[bDk] at hx;subst hx;exact⟨⟨hm'.mono Ab,rfl,⟨hj'.mono Af,by rw[hJ];exact hjy.2.2⟩⟩,(Sz.mul zx zy).mono Ad⟩⟩⟩
end Go.Proofs.Y
/- Forms of expressions: the program. -/
namespace Go.Vc
open Go Go.Dig
end Go.Vc
namespace Go.Proofs.Y
open Go Go.Vc Go.Dig
attribute [local irreducible] Vc.Fn FnP
end Go.Proofs.Y
/- The form of every expression: the program. -/
namespace Go.Proofs.Y
open Go Go.Vc Go.Dig
attribute [local irreducible] Vc.Fn FnP
section
variable {e k k':Tr} {op arg:Int} {q:Rat} {a b c:Pol} {n:Nat} {rs:List (Tr × Except Nat Pol)}
theorem bAw:iI e 1 arg q rs=.ok (fO q):=if_pos rfl
theorem aXh(h1:op≠1)(h2:¬(4<=op/\op<=9)):iI e op arg q rs=gR (b8 (aK e)):=by unfold iI;rw[if_neg h1,if_neg h2]
theorem aE1(h1:op≠1)(h2:4<=op/\op<=9):iI e op arg q ((k,.error n)::rs)=.error n:=by unfold iI;rw[if_neg h1,if_pos h2]
theorem aXi(h1:op≠1)(h2:4<=op/\op<=9)(h4:op≠4)(h9:op≠9):iI e op arg q ((k,.ok a)::(k',.error n)::rs)=.error n:=by unfold iI;rw[if_neg h1,if_pos h2];dsimp only;rw[if_neg h4,if_neg h9]
theorem bAx:iI e 4 arg q ((k,.ok a)::rs)=cV (plL [] a (-1)):=by unfold iI;rw[if_neg Ad,if_pos Ad];dsimp only;rw[if_pos rfl]
theorem bAy:iI e 5 arg q ((k,.ok a)::(k',.ok b)::rs)=cV (plL a b 1):=by unfold iI;rw[if_neg Ad,if_pos Ad];dsimp only;rw[if_neg Ad,if_neg Ad,if_pos rfl]
theorem bAz:iI e 6 arg q ((k,.ok a)::(k',.ok b)::rs)=cV (plL a b (-1)):=by unfold iI;rw[if_neg Ad,if_pos Ad];dsimp only;rw[if_neg Ad,if_neg Ad,if_neg Ad,if_pos rfl]
theorem bA0:iI e 7 arg q ((k,.ok a)::(k',.ok b)::rs)=cV (tmL a b):=by unfold iI;rw[if_neg Ad,if_pos Ad];dsimp only;rw[if_neg Ad,if_neg Ad,if_neg Ad,if_neg Ad,if_pos rfl]
theorem bA1(h:¬arg<0):iI e 9 arg q ((k,.ok a)::rs)=mW a arg.natAbs:=by unfold iI;rw[if_neg Ad,if_pos Ad];dsimp only;rw[if_neg Ad,if_pos rfl,if_neg h]
end
theorem aTy{a:Pol}{i n:Nat}(h:mW a i=.error n):∀{N:Nat},i<=N->mW a N=.error n
 | 0,hN=>by obtain rfl:i=0:=Aa;exact h
 | N+1,hN=>by
  by_cases e:i=N+1
  .subst e;exact h
  .have:=aTy h (N:=N) Aa;unfold mW;rw[this]
theorem aTz{a o:Pol}{i:Nat}(h:mW a i=.ok o):mW a (i+1)=cV (tmL o a):=by
 rw[mW,h]
theorem aT0(h:aA):qK h ⟨none,0,0⟩ []:=⟨[],rfl,Rw.nil _ _,fun x hx=>by cases hx⟩
theorem aJ3{k:Tr}{d:Nat}(hok:okT d k)(hsz:szT k<=300){p:Pol}(e:bU k=.ok p):∃S:List (List UInt8),S.length<=300/\Sok S/\PG S p:=by
 obtain⟨S,h1,h2,h3⟩:=sF k d hok e;exact⟨S,Aa,h2,h3⟩
theorem bA2{S1 S2:List (List UInt8)}{a b:Pol}(h1:S1.length<=300)(h2:S2.length<=300)(o1:Sok S1)(o2:Sok S2)(g1:PG S1 a)(g2:PG S2 b):(S1++S2).length<=100000/\Sok (S1++S2)/\PG (S1++S2) a/\PG (S1++S2) b:=
 ⟨by rw[bC6];omega,fun s hs=>(bDf.1 hs).elim (o1 s) (o2 s),g1.mono fun s hs=>bDz _ hs,g2.mono fun s hs=>bD0 _ hs⟩
theorem aBj:∀(t:Tr) (d:Nat),okT d t->szT t<=300->∀(h:aA) (vs:List Value),Tb h->Pw h->IsE h vs t->aZ t->FP F.q83 [.agg vs.toArray] h (bU t):=by
 refine bN fun t ih=>?_
 intro d hok hsz h vs tb pw w hp;have ct:=fun h tb pw w=>aK8 t d hok hsz h vs tb pw w hp
 have w0:=w;obtain⟨op,arg,neg,l,m,name,ks⟩:=t;obtain⟨va,vb,sk,rfl,-,harg,hval,-,hk⟩:=w.isK;have hok':=hok;rw[okT] at hok;rw[aZ] at hp;obtain⟨hpo,hpk⟩:=hp;obtain⟨hd30,hnb,hoks⟩:=hok;have hn1:=hnb.1;have hsz':=hsz;rw[szT] at hsz;have hP:bU (.mk op arg neg l m name ks)=iI (.mk op arg neg l m name ks) op arg (aN neg l m) (eJ ks):=by rw[bU]
 have ih':∀k,k∈ks->∀(h:aA) (vs:List Value),Tb h->Pw h->IsE h vs k->FP F.q83 [.agg vs.toArray] h (bU k):=fun k hk h vs tb pw w=>by
  obtain⟨j,hj,e⟩:=List.mem_iff_getElem.1 hk;exact ih k (aP (j:=j) (by rw[bC8 hj,e])) (d+1) (fC hoks hk) (by have:=oK hk;omega) h vs tb pw w (iE hpk hk)
 obtain⟨r,hr⟩:=AB (bU (.mk op arg neg l m name ks));rw[<-hr];rw[<-hr] at hP;by_cases o1:op=1
 .subst o1;have hR:=lO h tb neg va vb l m hval;have hnum:=hnb.2.2.2.2;rw[if_pos rfl] at hnum;have hokR:=hnum.1;have hz:=hokR.sz;have hr2:r=.ok (fO (aN neg l m)):=hP.trans bAw;unfold FP;refine fPC ok _ D.q83 rfl ?_;conv=>whnf
  repeat' ((first|(apply aQ.go)|(show LdN _ _ _ _ _;refine LdN.oA 0 rfl rfl ?_)|(show CN _ _ _ _ _ _;first|(refine CN.f rfl (Fn0.wP hR) (fun v h' hl hr'=>?_);obtain⟨s9,c9,d9,rfl,hq9⟩:=hr';obtain⟨rfl,hfr⟩:=hq9 hokR)|(refine CN.poly rfl (xB _ (tb.mono Ab) c9 d9 _ (hfr.mono Af) ⟨hz.num,hz.den⟩) (fun p s h' hl e w=>?_) (fun n e=>hr2.trans e)))|((first|apply oI.z|apply cI.z))|intro (_:Nat)|refine Ld.o 0 rfl rfl ?_|refine Sto.l 0 rfl rfl rfl ?_|(apply aD<;>intro _<;>try (exfalso;omega)))<;>conv=>whnf)
  all_goals exact RN.a (R:=vC r) ⟨p,s,hr2.trans e,rfl,w⟩
 by_cases o2:¬(4<=op/\op<=9)
 .have hr2:r=gR (b8 (aK (.mk op arg neg l m name ks))):=hP.trans (aXh o1 o2);obtain⟨X,hX⟩:=AB (aK (.mk op arg neg l m name ks));rw[<-hX] at hr2;simp only[<-hX] at ct;have c2:∀h,Tb h->FP F.q151 [.string (txt X)] h r:=fun h tb=>by rw[hr2];exact aOt h tb _
  unfold FP;refine fPC ok _ D.q83 rfl ?_;conv=>whnf
  repeat' ((first|(apply aQ.go)|(show LdN _ _ _ _ _;refine LdN.oA 0 rfl rfl ?_)|(show CN _ _ _ _ _ _;first|(refine CN.f rfl (Fn0.wP (ct _ tb pw w0)) (fun v h' hl hr'=>?_);subst hr')|refine CN.poly rfl (c2 _ (tb.mono Ab)) (fun p s h' hl e w=>?_) (fun n e=>e))|((first|apply oI.z|apply cI.z))|intro (_:Nat)|refine Ld.o 0 rfl rfl ?_|(apply aD<;>intro _<;>try (exfalso;omega)))<;>conv=>whnf)
  all_goals exact RN.a (R:=vC r) ⟨p,s,e,rfl,w⟩
 replace o2:=Decidable.not_not.1 o2;by_cases o4:op=4
 .subst o4;obtain⟨k,rfl⟩:=aEm hn1 rfl;have hk0:([k]:List Tr)[0]?=some k:=rfl;have c1:=ih' k (bDk.2 rfl);rw[eJ,eJ] at hP;have f1:∀n,bU k=.error n->r=.error n:=fun n e=>by rw[hP,e];exact aE1 o1 o2
  have f2:∀p,bU k=.ok p->r=cV (plL [] p ((-1:Int):Rat)):=fun p e=>by rw[hP,e];exact bAx
  have gk:∀p,bU k=.ok p->rI p:=fun p e=>(sF k (d+1) (fC hoks (bDk.2 rfl)) e).elim fun S x=>x.2.2.good
  unfold FP;refine fPC ok _ D.q83 rfl ?_;conv=>whnf
  repeat' ((first|(apply aQ.go)|(show Idx _ _ _ _ _;refine Idx.kid hk 0 k rfl hk0 (fun ad op2 arg2 neg2 a2 b2 name2 s2 hE hld=>?_))|(refine hld _ _ _ Af ?_)|((first|apply oI.z|apply cI.z))|intro (_:Nat)|(show CN _ _ _ _ _ _;first|(refine CN.poly rfl (c1 _ _ (tb.mono Af) (pw.mono Af) (hE.mono Af)) (fun p s h' hl e w=>?_) f1)|refine CN.poly rfl (aE0 _ (tb.mono Ab) ⟨none,0,0⟩ s [] p (-1) (.inr rfl) (aT0 _) w aAy (gk p e)) (fun p2 s2 h2 hl2 e2 w2=>?_) (fun n e3=>(f2 p e).trans e3))|refine Ld.o 0 rfl rfl ?_|(apply aD<;>intro _<;>try (exfalso;omega)))<;>conv=>whnf)
  all_goals exact RN.a (R:=vC r) ⟨p2,s2,(f2 p e).trans e2,rfl,w2⟩
 by_cases o9:op=9
 .subst o9;obtain⟨k,rfl⟩:=aEm hn1 rfl;have hk0:([k]:List Tr)[0]?=some k:=rfl;have hkm:k∈[k]:=bDk.2 rfl;have c1:=ih' k hkm;have hokk:=fC hoks hkm;have hszk:szT k<=300:=by have:=oK hkm;omega
  rw[eJ,eJ] at hP;have f1:∀n,bU k=.error n->r=.error n:=fun n e=>by rw[hP,e];exact aE1 o1 o2
  have gk:∀p,bU k=.ok p->rI p:=fun p e=>(sF k (d+1) hokk e).elim fun S x=>x.2.2.good
  have kg:∀p,bU k=.ok p->∃S:List (List UInt8),S.length<=300/\Sok S/\PG S p:=fun p e=>aJ3 hokk hszk e
  have hab:-32<=arg/\arg<=32:=⟨hnb.2.1,hnb.2.2.1⟩;have ha:¬arg<0:=Aa;have f2:∀p,bU k=.ok p->r=mW p arg.natAbs:=fun p e=>by rw[hP,e];exact bA1 ha
  obtain⟨N,hN⟩:=AB arg.natAbs;unfold FP;refine fPC ok _ D.q83 rfl ?_;conv=>whnf
  repeat' first|((first|(apply aQ.go)|(show DrN _ _ _ _ _ _;refine DrN.run Al ?_)|(show Idx _ _ _ _ _;refine Idx.kid hk 0 k rfl hk0 (fun ad0 op0 arg0 neg0 a0 b0 name0 s0 hE0 hld0=>?_))|(refine hld0 _ _ _ Af ?_)|((first|apply oI.z|apply cI.z))|refine⟨fun _=>aH.o Ab,?_⟩|intro (_:Nat)|(show CN _ _ _ _ _ _;first|(refine CN.poly rfl (c1 _ _ (tb.mono Af) (pw.mono Af) (hE0.mono Af)) (fun p s h7 hl7 e7 w7=>?_) f1)|(refine CN.f rfl (Fn0.wP (uD _ 1 Ad Ad)) (fun v h6 hl6 hr6=>?_);obtain⟨u1,u2,rfl,hu⟩:=hr6)|(refine CN.poly rfl (xB _ (tb.mono Ac) u1 u2 _ hu fL) (fun p0 s0 h9 hl9 e9 w0'=>?_) (fun n e=>by cases e)))|refine Ld.o 0 rfl rfl ?_)<;>conv=>whnf)|(show cnd _ _ _;first|((first|apply aB|apply aD)<;>intro _<;>first|(exfalso;omega)|conv=>whnf))
  have hp0:p0=[([],1)]:=by injection e9 with e9;rw[<-e9];rfl
  have tb9:Tb h9:=tb.mono Ac;obtain⟨B,hB⟩:=AB p;rw[<-hB] at w7 e7;obtain⟨S,hS,hSo,gB⟩:=kg B e7;have hrB:r=mW B N:=by rw[hN];exact f2 B e7
  have wB:qK h9 s B:=w7.mono Ac;refine LpN.of (fun q ρ hx L=>∃(i:Nat) (o:Pol) (so:Sl),q=N-i/\h9.le hx/\i<=N/\rd ρ 115=.int .i64 i/\rd ρ 11=so.val/\qK hx so o/\PG S o/\Hq (mW B i=.ok o)) N
   ⟨0,p0,s0,rfl,aA.lr _,bDw _,rfl,rfl,w0',by rw[hp0];exact aMc S,⟨by rw[hp0];rfl⟩⟩ ?_
  conv=>whnf
  repeat intro _
  rename_i q3 h3 L3 hI;obtain⟨i,o,so,rfl,hle3,hi,e115,e11,wo,go,⟨ho⟩⟩:=hI;conv at e11=>lhs;whnf
  subst e11;conv at e115=>lhs;whnf
  subst e115;by_cases hiN:i=N
  .have hfin:r=.ok o:=hrB.trans (by rw[<-hiN];exact ho);conv=>whnf
   repeat' ((first|((first|apply oI.z|apply cI.z))|(apply aB<;>intro _<;>try (exfalso;omega)))<;>conv=>whnf)
   exact RN.a (R:=vC r) ⟨o,so,hfin,rfl,wo⟩
  .have hnx:=aTz ho;have c9:=fun h tb w1 w2=>aHs h tb S Aa hSo so s o B w1 w2 go gB
   conv=>whnf
   repeat' ((first|(show CN _ _ _ _ _ _;(refine CN.poly rfl (c9 _ (tb9.mono Ab) (wo.mono Af) (wB.mono Ab)) (fun p5 s5 h5 hl5 e5 w5=>?_) (fun n e=>hrB.trans (aTy (hnx.trans e) Aa))))|((first|apply oI.z|apply cI.z))|refine WN.i64 Aa Aa ?_|(apply aB<;>intro _<;>try (exfalso;omega)))<;>conv=>whnf)
   exact⟨rfl,N-(i+1),Aa,i+1,p5,s5,rfl,Ac,Aa,vi Aa,rfl,w5,aMb go.key gB.key e5,⟨hnx.trans e5⟩⟩
 obtain⟨k,k',rfl⟩:=aJt hn1 (by unfold aR;rw[if_neg Aa,if_neg Aa,if_pos Aa]);have hk0:([k,k']:List Tr)[0]?=some k:=rfl;have hk1:([k,k']:List Tr)[1]?=some k':=rfl;have hm0:k∈[k,k']:=by simp
 have hm1:k'∈[k,k']:=by simp
 have c1:=ih' k hm0;have c2:=ih' k' hm1;have hok0:=fC hoks hm0;have hok1:=fC hoks hm1;have hsz0:szT k<=300:=by have:=oK hm0;omega
 have hsz1:szT k'<=300:=by have:=oK hm1;omega
 rw[eJ,eJ,eJ] at hP;have f1:∀n,bU k=.error n->r=.error n:=fun n e=>by rw[hP,e];exact aE1 o1 o2
 have f2:∀p n,bU k=.ok p->bU k'=.error n->r=.error n:=fun p n e e2=>by rw[hP,e,e2];exact aXi o1 o2 o4 o9
 have gk:∀p,bU k=.ok p->rI p:=fun p e=>(sF k (d+1) hok0 e).elim fun S x=>x.2.2.good
 have gk':∀p,bU k'=.ok p->rI p:=fun p e=>(sF k' (d+1) hok1 e).elim fun S x=>x.2.2.good
 have cm:∀(h:aA) (s1 s2:Sl) (p p2:Pol),Tb h->qK h s1 p->qK h s2 p2->bU k=.ok p->bU k'=.ok p2->FP F.q148 [s1.val,s2.val] h (cV (tmL p p2)):=fun h s1 s2 p p2 tb w1 w2 e1 e2=>by
  obtain⟨S1,z1,q1,g1⟩:=aJ3 hok0 hsz0 e1;obtain⟨S2,z2,q2,g2⟩:=aJ3 hok1 hsz1 e2;obtain⟨z,q,g1,g2⟩:=bA2 z1 z2 q1 q2 g1 g2;exact aHs h tb _ z q s1 s2 p p2 w1 w2 g1 g2
 by_cases o5:op=5
 .subst o5;have f3:∀p p2,bU k=.ok p->bU k'=.ok p2->r=cV (plL p p2 ((1:Int):Rat)):=fun p p2 e e2=>by rw[hP,e,e2];exact bAy
  unfold FP;refine fPC ok _ D.q83 rfl ?_;conv=>whnf
  repeat' ((first|(apply aQ.go)|(show Idx _ _ _ _ _;first|refine Idx.kid hk 0 k rfl hk0 (fun ad0 op0 arg0 neg0 a0 b0 name0 s0 hE0 hld0=>?_)|refine Idx.kid hk 1 k' rfl hk1 (fun ad1 op1 arg1 neg1 a1 b1 name1 s1 hE1 hld1=>?_))|(refine hld0 _ _ _ Af ?_)|refine hld1 _ _ _ Ab ?_|((first|apply oI.z|apply cI.z))|intro (_:Nat)|(show CN _ _ _ _ _ _;first|(refine CN.poly rfl (c1 _ _ (tb.mono Af) (pw.mono Af) (hE0.mono Af)) (fun p s h7 hl7 e7 w7=>?_) f1)|refine CN.poly rfl (c2 _ _ (tb.mono Ab) (pw.mono Ab) (hE1.mono Ab)) (fun p2 s2 h8 hl8 e8 w8=>?_) (fun n e=>f2 p n e7 e)|(refine CN.poly rfl (aE0 _ (tb.mono Ac) s s2 p p2 1 (.inl rfl) (w7.mono Ab) (w8.mono Af) (gk p e7) (gk' p2 e8)) (fun p3 s3 h9 hl9 e3 w3=>?_) (fun n e=>(f3 p p2 e7 e8).trans e)))|refine Ld.o 0 rfl rfl ?_|(apply aD<;>intro _<;>try (exfalso;omega)))<;>conv=>whnf)
  all_goals exact RN.a (R:=vC r) ⟨p3,s3,(f3 p p2 e7 e8).trans e3,rfl,w3⟩
 by_cases o6:op=6
 .subst o6;have f3:∀p p2,bU k=.ok p->bU k'=.ok p2->r=cV (plL p p2 ((-1:Int):Rat)):=fun p p2 e e2=>by rw[hP,e,e2];exact bAz
  unfold FP;refine fPC ok _ D.q83 rfl ?_;conv=>whnf
  repeat' ((first|(apply aQ.go)|(show Idx _ _ _ _ _;first|refine Idx.kid hk 0 k rfl hk0 (fun ad0 op0 arg0 neg0 a0 b0 name0 s0 hE0 hld0=>?_)|refine Idx.kid hk 1 k' rfl hk1 (fun ad1 op1 arg1 neg1 a1 b1 name1 s1 hE1 hld1=>?_))|(refine hld0 _ _ _ Af ?_)|refine hld1 _ _ _ Ab ?_|((first|apply oI.z|apply cI.z))|intro (_:Nat)|(show CN _ _ _ _ _ _;first|(refine CN.poly rfl (c1 _ _ (tb.mono Af) (pw.mono Af) (hE0.mono Af)) (fun p s h7 hl7 e7 w7=>?_) f1)|refine CN.poly rfl (c2 _ _ (tb.mono Ab) (pw.mono Ab) (hE1.mono Ab)) (fun p2 s2 h8 hl8 e8 w8=>?_) (fun n e=>f2 p n e7 e)|(refine CN.poly rfl (aE0 _ (tb.mono Ac) s s2 p p2 (-1) (.inr rfl) (w7.mono Ab) (w8.mono Af) (gk p e7) (gk' p2 e8)) (fun p3 s3 h9 hl9 e3 w3=>?_) (fun n e=>(f3 p p2 e7 e8).trans e)))|refine Ld.o 0 rfl rfl ?_|(apply aD<;>intro _<;>try (exfalso;omega)))<;>conv=>whnf)
  all_goals exact RN.a (R:=vC r) ⟨p3,s3,(f3 p p2 e7 e8).trans e3,rfl,w3⟩
 by_cases o7:op=7
 .subst o7;have f3:∀p p2,bU k=.ok p->bU k'=.ok p2->r=cV (tmL p p2):=fun p p2 e e2=>by rw[hP,e,e2];exact bA0
  unfold FP;refine fPC ok _ D.q83 rfl ?_;conv=>whnf
  repeat' ((first|(apply aQ.go)|(show Idx _ _ _ _ _;first|refine Idx.kid hk 0 k rfl hk0 (fun ad0 op0 arg0 neg0 a0 b0 name0 s0 hE0 hld0=>?_)|refine Idx.kid hk 1 k' rfl hk1 (fun ad1 op1 arg1 neg1 a1 b1 name1 s1 hE1 hld1=>?_))|(refine hld0 _ _ _ Af ?_)|refine hld1 _ _ _ Ab ?_|((first|apply oI.z|apply cI.z))|intro (_:Nat)|(show CN _ _ _ _ _ _;first|(refine CN.poly rfl (c1 _ _ (tb.mono Af) (pw.mono Af) (hE0.mono Af)) (fun p s h7 hl7 e7 w7=>?_) f1)|refine CN.poly rfl (c2 _ _ (tb.mono Ab) (pw.mono Ab) (hE1.mono Ab)) (fun p2 s2 h8 hl8 e8 w8=>?_) (fun n e=>f2 p n e7 e)|(refine CN.poly rfl (cm _ s s2 p p2 (tb.mono Ac) (w7.mono Ab) (w8.mono Af) e7 e8) (fun p3 s3 h9 hl9 e3 w3=>?_) (fun n e=>(f3 p p2 e7 e8).trans e)))|refine Ld.o 0 rfl rfl ?_|(apply aD<;>intro _<;>try (exfalso;omega)))<;>conv=>whnf)
  all_goals exact RN.a (R:=vC r) ⟨p3,s3,(f3 p p2 e7 e8).trans e3,rfl,w3⟩
 .exfalso;omega
end Go.Proofs.Y