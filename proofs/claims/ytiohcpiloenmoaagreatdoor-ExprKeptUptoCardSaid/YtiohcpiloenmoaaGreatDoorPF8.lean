/- Sums, products, reciprocals of forms: the program. -/
import Derived.Test.YtiohcpiloenmoaaGreatDoorPJ4
set_option linter.all false
set_option maxHeartbeats 8000000
set_option maxRecDepth 20000
namespace Go.Vc
open Go Go.Dig
theorem App.growM{T:Tab}{e:TypeId}{size bytes:Nat}{s:Value}{h:aA}{A Fx:Vc.Own}{k:Value->aA->Vc.Own->Prop}{z:List Value}{n:Nat}{xs:List Value}
  (hi:T.inf e=some (z,bytes)) (hz:z.length=size) (g:aE e size s n xs Fx)
  (ad:Addr) (m c:Nat) (news:List Value) (hl:news.length=m*size) (hnews:∀j,j<news.length->Has h (A++Fx) (ad.add j) (news.getD j undef)) (ho:news.all eS=true)
  (hm0:0<m) (hm:n+m<=70368744177664) (hby:(n+m)*bytes<=140737488355328) (hsz:0<size)
  (hk:∀v' F',aE e size v' (n+m) (xs++news) F'->(∀x∈A,x∈F')->k v' h F'):App T e size bytes s (.slice (some ad) m c) h (A++Fx) k:=by
 have:=App.growA (tl:=[]) hi hz g ad m c news hl (by rw[aZc];exact hnews) ho hm0 hm hby hsz (k:=k) (fun v' F' g' hA=>by rw[aZc];exact hk v' F' g' hA)
 rwa [aZc] at this
end Go.Vc
namespace Go.Proofs.Y
open Go Go.Vc Go.Dig
attribute [local irreducible] Vc.Fn FnP
theorem aCq(h:aA)(tb:Tb h)(s1 s2:Sl)(a b:Pol)(k:Int)(hk:k=1\/k=-1)(w1:kK h s1 a)(w2:kK h s2 b)(g1:oV a)(g2:oV b):FP F.q114 [s1.val,s2.val,.int .i64 k] h (cN (plL a b (k:Rat))):=by
 obtain⟨l1,e1,r1,t1⟩:=w1;obtain⟨l2,e2,r2,t2⟩:=w2;have hl1:l1.length<=200:=by have:=g1.len;rw[<-e1,aZp] at this;exact this
 have hl2:l2.length<=200:=by have:=g2.len;rw[<-e2,aZp] at this;exact this
 have z1:∀x∈l1,Sz 64 x.q:=fun x hx=>rO (g1.fit (pq x) (by rw[<-e1];exact aZu hx))
 have z2:∀x∈l2,Sz 64 x.q:=fun x hx=>rO (g2.fit (pq x) (by rw[<-e2];exact aZu hx))
 have hs2:s2.l=l2.length:=by have:=r2.len;rw[cY] at this;omega
 have zk:=aWg hk;have hkb:-9223372036854775808<=k/\k<=9223372036854775807:=Aa;have c1:=aLf h s1 l1 r1 Aa;obtain⟨r,hr⟩:=AE (cN (plL a b (k:Rat)));rw[<-hr];obtain⟨K,hK⟩:∃K:Rat,K=(k:Rat):=⟨_,rfl⟩
 have c2:=fun h=>nX h k hkb.1 hkb.2
 rw[<-hK] at hr zk;simp only[<-hK] at c2;unfold FP;refine fPC ok _ D.q114 rfl ?_;conv=>whnf
 repeat' ((first|(show CN _ _ _ _ _ _;(refine CN.new rfl (Fn.wP c1) (fun v h' La hl hr'=>?_);obtain⟨rfl,g⟩:=hr';clear hl))|((first|apply oI.z|apply cI.z)))<;>conv=>whnf)
 refine LpN.of (fun r ρ hx L=>∃(i:Nat) (M:List El) (v:Value),r=l2.length-i/\h'.le hx/\i<=l2.length/\rd ρ 14=.int .i64 i/\rd ρ 7=v/\aE Ty.expr_term 4 v (l1.length+i) (fl (l1++M)) L/\M.length=i/\Hq (M.map pq=((l2.take i).map pq).map fun t=>(t.1,t.2*K))/\Hq (∀x∈l1++M,TmW hx x/\Sz 130 x.q)) l2.length
  ⟨0,[],_,rfl,aA.lr _,aZs _,rfl,rfl,by rw[aZc,aZc];exact g,rfl,⟨rfl⟩,⟨fun x hx=>by rw[aZc] at hx;exact⟨t1 x hx,(z1 x hx).mono Ag⟩⟩⟩ ?_
 clear g;conv=>whnf
 repeat intro _
 rename_i q2 h2 L2 hI;obtain⟨i,M,v,rfl,hle,hi,e14,e7,g,hM,⟨hq⟩,⟨hw⟩⟩:=hI;conv at e7=>lhs;whnf
 subst e7;conv at e14=>lhs;whnf
 subst e14;have r2x:=r2.mono hle;replace tb:=tb.mono hle;by_cases hil:i=l2.length
 .have hr2:cN ((l1++M).map pq)=r:=by
   rw[hr,aZh,hq,hil,aZi,e1,e2];rfl
  conv=>whnf
  repeat' ((first|refine tA tb g (by rw[aY2,hM]) Aa hw hr2 (fun p s h' L' hl e w=>?_) (fun n e=>e)|((first|apply oI.z|apply cI.z))|(apply aB<;>intro _<;>try (exfalso;omega)))<;>conv=>whnf)
  exact RN.a (R:=mR r) ⟨p,s,e,rfl,w⟩
 .obtain⟨x,hx⟩:∃t,l2[i]?=some t:=⟨_,aY4 Aa⟩
  have wx:=(t2 x (aY8 hx)).mono hle;have zx:=z2 x (aY8 hx);have hsn:=bB hx;obtain⟨xn,xa,xd,xf,xm,xq⟩:=x;obtain rfl:xn=sg xq:=wx.sg;have c3:=fun h tb (c d:Sl) w1 w2=>qH h tb xa xd c d xq K w1 w2 (zx.mono Ag) (zk.mono Ag)
  have wxf:=wx.fr;conv=>whnf
  repeat' ((first|(show Idx _ _ _ _ _;refine Idx.el r2x i _ Aa hx (fun ab ao aw=>?_))|(show LdN _ _ _ _ _;first|(refine LdN.el4 aw Ad ?_)|refine LdN.oA 0 rfl rfl ?_)|(show DrN _ _ _ _ _ _;refine DrN.own [_] (List.Sublist.cons_cons _ (bAd _)) Al ?_)|refine⟨fun _=>⟨aF.o (aA.lr _),List.singleton_sublist.2 (hA _ (aZd _ (aZa)))⟩,?_⟩|(refine⟨fun _=>⟨aF.o Am,by repeat first|exact bAd _|apply List.Sublist.cons_cons|refine List.Sublist.trans ?_ (bAe _ _)|apply List.Sublist.cons⟩,?_⟩)|((first|apply oI.z|apply cI.z))|intro (_:Nat)|(show CN _ _ _ _ _ _;first|(refine CN.f rfl (Fn0.wP (c2 _)) (fun v h' hl hr'=>?_);obtain⟨i1,i2,rfl,hi'⟩:=hr')|(refine CN.f rfl (Fn0.wP (c3 _ Ae _ _ (wxf.mono Ab) Ab)) (fun v h' hl hr'=>?_);obtain⟨m1,m2,rfl,hm'⟩:=hr'))|(show App _ _ _ _ _ _ _ _ _;refine App.growM (A:=[_,_]) (Fx:=L2) (size:=4) (bytes:=80) (z:=[.bool false,.slice none 0 0,.slice none 0 0,.slice none 0 0]) rfl rfl g ⟨_,0,none⟩ 1 1 [_,_,_,_] rfl (Has.four _) rfl Ag Aa Aa Ag (fun v' F' g' hA=>?_))|refine WN.i64 Aa Aa ?_|refine Ld.o 0 rfl rfl ?_|refine Sto.l 0 rfl rfl rfl ?_|(apply aB<;>intro _<;>try (exfalso;omega)))<;>conv=>whnf)
  .have hMx:(M++[(⟨sg (xq*K),m1,m2,xf,xm,xq*K⟩:El)]).map pq=((l2.take (i+1)).map pq).map fun t=>(t.1,t.2*K):=by
    rw[aZh,hq,hsn,aZh,aZh];rfl
   exact⟨rfl,l2.length-(i+1),Aa,i+1,M++[⟨sg (xq*K),m1,m2,xf,xm,xq*K⟩],_,rfl,Ac,Aa,vi Aa,rfl,by rw[<-aY7];exact aE.el g',by rw[aY2,hM];rfl,⟨hMx⟩,⟨fun x hx=>by
     rw[<-aY7] at hx;rcases aZb.1 hx with hx|hx
     .exact⟨(hw x hx).1.mono Ac,(hw x hx).2⟩
     .rw[aZg] at hx;subst hx;exact⟨⟨hm',rfl,⟨wx.fac.rw.mono Ac,wx.fac.len⟩⟩,(Sz.mul zx zk).mono Ag⟩⟩⟩
theorem tC(h:aA)(tb:Tb h)(S:List (List UInt8))(hS:S.length<=100000)(hSo:Sok S)(s1 s2:Sl)(a b:Pol)(w1:kK h s1 a)(w2:kK h s2 b)(g1:PG S a)(g2:PG S b):FP F.q115 [s1.val,s2.val] h (cN (tmL a b)):=by
 have pl1:=g1.len;have pl2:=g2.len;have pk1:=g1.key;have pk2:=g2.key;obtain⟨l1,e1,r1,t1⟩:=w1;obtain⟨l2,e2,r2,t2⟩:=w2;have hl1:l1.length<=200:=by have:=g1.good.len;rw[<-e1,aZp] at this;exact this
 have hl2:l2.length<=200:=by have:=g2.good.len;rw[<-e2,aZp] at this;exact this
 have mm1:∀x∈l1,pq x∈a:=fun x hx=>by rw[<-e1];exact aZu hx
 have mm2:∀x∈l2,pq x∈b:=fun x hx=>by rw[<-e2];exact aZu hx
 have z1:∀x∈l1,Sz 64 x.q:=fun x hx=>rO (g1.good.fit (pq x) (mm1 x hx))
 have z2:∀x∈l2,Sz 64 x.q:=fun x hx=>rO (g2.good.fit (pq x) (mm2 x hx))
 have hs1:s1.l=l1.length:=by have:=r1.len;rw[cY] at this;omega
 have hs2:s2.l=l2.length:=by have:=r2.len;rw[cY] at this;omega
 have hj:∀x∈l1,∀y∈l2,x.m.length+y.m.length<=1000000/\(∀t∈x.m++y.m,t.2<=1000/\t.1.length<=4000)/\(jn x.m y.m).length<=1099511627776:=fun x hx y hy=>by
  have a1:=pl1 _ (mm1 x hx);have a2:=pl2 _ (mm2 y hy);dsimp only[pq] at a1 a2;refine⟨Aa,fun t ht=>?_,aZr (aV9 _ _) Aa⟩
  rcases aZb.1 ht with ht|ht
  .exact⟨aZr (g1.good.deg _ (mm1 x hx) t ht) Ag,hSo _ (pk1 _ (mm1 x hx) t ht)⟩
  .exact⟨aZr (g2.good.deg _ (mm2 y hy) t ht) Ag,hSo _ (pk2 _ (mm2 y hy) t ht)⟩
 have hprod:l1.length*l2.length<=40000:=bA1 hl1 hl2;obtain⟨r,hr⟩:=AE (cN (tmL a b));rw[<-hr];clear pl1 pl2 pk1 pk2 mm1 mm2 g1 g2 hSo hS;unfold FP;refine fPC ok _ D.q115 rfl ?_;conv=>whnf
 repeat ((first|apply oI.z|apply cI.z);conv=>whnf)
 skip
 refine LpN.of (fun r ρ hx L=>∃(i:Nat) (M:List El) (v:Value),r=l1.length-i/\h.le hx/\i<=l1.length/\rd ρ 12=.int .i64 i/\rd ρ 5=v/\aE Ty.expr_term 4 v M.length (fl M) L/\M.length=i*l2.length/\Hq (M.map pq=tmL ((l1.take i).map pq) b)/\Hq (∀x∈M,TmW hx x/\Sz 130 x.q)) l1.length
  ⟨0,[],_,rfl,aA.lr _,aZs _,rfl,rfl,aE.nil _ _ _,(bAs _).symm,⟨rfl⟩,⟨fun x hx=>by cases hx⟩⟩ ?_
 conv=>whnf
 repeat intro _
 rename_i q2 h2 L2 hI;obtain⟨i,M,v,rfl,hle,hi,e12,e5,g,hM,⟨hq⟩,⟨hw⟩⟩:=hI;conv at e5=>lhs;whnf
 subst e5;conv at e12=>lhs;whnf
 subst e12;have r1x:=r1.mono hle;have tb2:=tb.mono hle;have hML:M.length<=40000:=by rw[hM];exact aZr (aZm _ hi) hprod
 by_cases hil:i=l1.length
 .have hr2:cN (M.map pq)=r:=by rw[hr,hq,hil,aZi,e1]
  obtain⟨N1,hN1⟩:=AE l1.length;rw[<-hN1] at hil hs1 ⊢;conv=>whnf
  repeat' ((first|refine tA tb2 g rfl Aa hw hr2 (fun p s h' L' hl e w=>?_) (fun n e=>e)|((first|apply oI.z|apply cI.z))|(apply aB<;>intro _<;>try (exfalso;omega)))<;>conv=>whnf)
  exact RN.a (R:=mR r) ⟨p,s,e,rfl,w⟩
 .obtain⟨x,hx⟩:∃t,l1[i]?=some t:=⟨_,aY4 Aa⟩
  have hxm:=aY8 hx;have wx:=(t1 x hxm).mono hle;have zx:=z1 x hxm;have hjx:=hj x hxm;have hsn:=bB hx;have htm:tmL ((l1.take (i+1)).map pq) b=tmL ((l1.take i).map pq) b++b.map fun y=>(jn x.m y.1,x.q*y.2):=by
   rw[hsn,aZh];unfold tmL;rw[List.flatMap_append]
   congr 1
   show (b.map fun y=>(jn x.m y.1,x.q*y.2))++[]=_
   rw[aZc]
  obtain⟨xn,xa,xd,xf,xm,xq⟩:=x;obtain rfl:xn=sg xq:=wx.sg;dsimp only at htm zx hjx;conv=>whnf
  repeat' ((first|(show Idx _ _ _ _ _;refine Idx.el r1x i _ Aa hx (fun ab ao aw=>?_))|(show LdN _ _ _ _ _;(refine LdN.el4 aw Ad ?_))|((first|apply oI.z|apply cI.z))|intro (_:Nat)|refine Sto.l 0 rfl rfl rfl ?_|(apply aB<;>intro _<;>try (exfalso;omega)))<;>conv=>whnf)
  refine LpN.keep0 fun h3 hl3 hb3=>?_
  have awx:aP1 h3 _ 0 ⟨sg xq,xa,xd,xf,xm,xq⟩:=fun h' L k v hl hk hv=>Has.imm (hl _ _ hb3) (by rw[aZq];show (⟨sg xq,xa,xd,xf,xm,xq⟩:El).cells.toArray[k]?=_;rw[aZx];exact hv)
  replace tb2:=tb2.mono hl3;replace wx:=wx.mono hl3;have r2x:=r2.mono (aA.lt hle hl3);have hle3:=aA.lt hle hl3;refine LpN.of (fun r ρ hx L=>∃(k:Nat) (M2:List El) (v:Value),r=l2.length-k/\h3.le hx/\k<=l2.length/\rd ρ 18=.int .i64 k/\rd ρ 5=v/\aE Ty.expr_term 4 v (M.length+k) (fl (M++M2)) L/\M2.length=k/\Hq (M2.map pq=((l2.take k).map pq).map fun y=>(jn xm y.1,xq*y.2))/\Hq (∀x∈M++M2,TmW hx x/\Sz 130 x.q)) l2.length
   ⟨0,[],_,rfl,aA.lr _,aZs _,rfl,rfl,by rw[aZc];exact g,rfl,⟨rfl⟩,⟨fun x hx=>by rw[aZc] at hx;exact⟨(hw x hx).1.mono hl3,(hw x hx).2⟩⟩⟩ ?_
  clear g hw hb3;conv=>whnf
  repeat intro _
  rename_i q4 h4 L4 hI;obtain⟨k,M2,v,rfl,hle4,hk,e18,e5,g,hM2,⟨hq2⟩,⟨hw⟩⟩:=hI;conv at e5=>lhs;whnf
  subst e5;conv at e18=>lhs;whnf
  subst e18;have tb4:=tb2.mono hle4;have r2y:=r2x.mono hle4;by_cases hkl:k=l2.length
  .have hq3:(M++M2).map pq=tmL ((l1.take (i+1)).map pq) b:=by rw[htm,aZh,hq,hq2,hkl,aZi,e2]
   have hM3:(M++M2).length=(i+1)*l2.length:=by rw[aY2,hM,hM2,hkl,aZ8,bBs]
   have g3:=g;rw[<-hM2,<-aY2] at g3;obtain⟨N2,hN2⟩:=AE l2.length;obtain⟨N1,hN1⟩:=AE l1.length;rw[<-hN2] at hkl hs2 hM3 ⊢;rw[<-hN1] at hi hil ⊢;conv=>whnf
   repeat' ((first|((first|apply oI.z|apply cI.z))|refine WN.i64 Aa Aa ?_|(apply aB<;>intro _<;>try (exfalso;omega)))<;>conv=>whnf)
   exact⟨rfl,N1-(i+1),Aa,i+1,M++M2,_,rfl,Ac,Aa,vi Aa,rfl,g3,hM3,⟨hq3⟩,⟨hw⟩⟩
  .obtain⟨y,hy⟩:∃t,l2[k]?=some t:=⟨_,aY4 Aa⟩
   have hym:=aY8 hy;have wy:=(t2 y hym).mono (aA.lt hle3 hle4);have zy:=z2 y hym;have hjy:=hjx y hym;have hsn2:=bB hy;have hM2L:M.length+k<=40200:=Aa;obtain⟨yn,ya,yd,yf,ym,yq⟩:=y;obtain rfl:yn=sg yq:=wy.sg;dsimp only at hjy zy;have c3:=fun h tb w1 w2=>qH h tb xa xd ya yd xq yq w1 w2 (zx.mono Ag) (zy.mono Ag)
   have c4:=fun h w1 w2=>aLp h xf yf xm ym w1 w2 hjy.1 hjy.2.1
   have wx4:=wx.mono hle4;have wxq:=wx4.fr;have wyq:=wy.fr;have wxf:=wx4.fac.rw;have wyf:=wy.fac.rw;obtain⟨J,hJ⟩:=AE (jn xm ym);simp only[<-hJ] at c4;conv=>whnf
   repeat' ((first|(show Idx _ _ _ _ _;refine Idx.el r2y k _ Aa hy (fun ab ao aw=>?_))|(show LdN _ _ _ _ _;first|(refine LdN.el4 aw Ad ?_)|refine LdN.elq awx Ab ?_|refine LdN.oA 0 rfl rfl ?_)|(show DrN _ _ _ _ _ _;refine DrN.own [_] (List.Sublist.cons_cons _ (bAd _)) Al ?_)|refine⟨fun _=>⟨aF.o (aA.lr _),List.singleton_sublist.2 (hA _ (aZd _ (aZa)))⟩,?_⟩|(refine⟨fun _=>⟨aF.o Am,by repeat first|exact bAd _|apply List.Sublist.cons_cons|refine List.Sublist.trans ?_ (bAe _ _)|apply List.Sublist.cons⟩,?_⟩)|((first|apply oI.z|apply cI.z))|intro (_:Nat)|(show Ld _ _ _ _;first|refine Ld.elf awx Ab ?_|refine Ld.o 0 rfl rfl ?_)|(show CN _ _ _ _ _ _;first|(refine CN.f rfl (Fn0.wP (c3 _ Ab (wxq.mono Ad) (wyq.mono Ad))) (fun v h' hl hr'=>?_);obtain⟨m1,m2,rfl,hm'⟩:=hr')|(refine CN.f rfl (Fn0.wP (c4 _ (wxf.mono Ab) (wyf.mono Ab))) (fun v h' hl hr'=>?_);obtain⟨sj,rfl,hj'⟩:=hr'))|(show App _ _ _ _ _ _ _ _ _;refine App.growM (A:=[_,_]) (Fx:=L4) (size:=4) (bytes:=80) (z:=[.bool false,.slice none 0 0,.slice none 0 0,.slice none 0 0]) rfl rfl g ⟨_,0,none⟩ 1 1 [_,_,_,_] rfl (Has.four _) rfl Ag Aa Aa Ag (fun v' F' g' hA=>?_))|refine WN.i64 Aa Aa ?_|refine Sto.l 0 rfl rfl rfl ?_|(apply aB<;>intro _<;>try (exfalso;omega)))<;>conv=>whnf)
   .have hMx:(M2++[(⟨sg (xq*yq),m1,m2,sj,J,xq*yq⟩:El)]).map pq=((l2.take (k+1)).map pq).map fun y=>(jn xm y.1,xq*y.2):=by
     rw[aZh,hq2,hsn2,aZh,aZh,hJ];rfl
    exact⟨rfl,l2.length-(k+1),Aa,k+1,M2++[⟨sg (xq*yq),m1,m2,sj,J,xq*yq⟩],_,rfl,Ac,Aa,vi Aa,rfl,by rw[<-aY7];exact aE.el g',by rw[aY2,hM2];rfl,⟨hMx⟩,⟨fun x hx=>by
      rw[<-aY7] at hx;rcases aZb.1 hx with hx|hx
      .exact⟨(hw x hx).1.mono Ac,(hw x hx).2⟩
      .rw[aZg] at hx;subst hx;exact⟨⟨hm'.mono Ab,rfl,⟨hj'.mono Ad,by rw[hJ];exact hjy.2.2⟩⟩,(Sz.mul zx zy).mono Ag⟩⟩⟩
end Go.Proofs.Y
/- Forms of expressions: the program. -/
namespace Go.Vc
open Go Go.Dig
theorem aI6(l:List Nat):txt ([49,32,47,32]++l)=⟨(iS++b8 l).toArray⟩:=by
 unfold txt b8;rw[aZh];rfl
end Go.Vc
namespace Go.Proofs.Y
open Go Go.Vc Go.Dig
attribute [local irreducible] Vc.Fn FnP
theorem aLq{b:Tr}{a:Pol}{c:Rat}(h:a=[([],c)]):fK b a=.ok [([],1 / c)]:=by subst h;rfl
theorem aQf{b:Tr}{a:Pol}(h:∀c,a≠[([],c)]):fK b a=if 4000<(aM b).length then .error 4 else eK (iS++b8 (bG (aM b,cX b.op) 3)):=by
 unfold fK
 split
 .exact absurd rfl (h _)
 .rfl
theorem aQg{s:List Nat}{v:Int}(h:v<3):bG (s,v) 3=[40]++s++[41]:=if_neg (by show ¬(3:Int)<=v;omega)
theorem aQh{s:List Nat}{v:Int}(h:¬v<3):bG (s,v) 3=s:=if_pos (by show (3:Int)<=v;omega)
theorem qY(h:aA)(tb:Tb h)(pw:Pw h)(b:Tr)(d:Nat)(hok:okT d b)(hsz:szT b<=300)(vs:List Value)(wb:IsE h vs b)(s:Sl)(a:Pol)(wa:kK h s a)(ga:oV a):FP F.q116 [.agg vs.toArray,s.val] h (fK b a):=by
 obtain⟨l,e1,r1,t1⟩:=wa;have hl:l.length<=200:=by have:=ga.len;rw[<-e1,aZp] at this;exact this
 have hs:s.l=l.length:=by have:=r1.len;rw[cY] at this;omega
 have ct:=fun h tb pw w=>aB5 b d hok hsz h vs tb pw w
 have wb0:=wb;obtain⟨r,hr⟩:=AE (fK b a);rw[<-hr];obtain⟨⟨op,arg,neg,nl,nm,name,ks⟩,ht⟩:=AE b;have hop:b.op=op:=by rw[<-ht];rfl
 obtain⟨va,vb,sk,hvs,-⟩:=(ht.symm▸wb:IsE h vs (.mk op arg neg nl nm name ks)).isK;subst hvs;clear wb;by_cases hc:∃x,l=[x]/\x.m=[]
 .obtain⟨x,rfl,hm⟩:=hc;have hx:([x]:List El)[0]?=some x:=rfl;have wx:=t1 x (aZg.2 rfl);obtain⟨xn,xa,xd,xf,xm,xq⟩:=x;obtain rfl:xn=sg xq:=wx.sg;dsimp only at hm;subst hm;have e2:a=[([],xq)]:=e1.symm;have h0:xq≠0:=ga.can.2 ([],xq) (by rw[e2];exact aZa);have hf:fits xq:=ga.fit ([],xq) (by rw[e2];exact aZa);have hn:nu xq≠0:=fun e=>h0 (dS.1 e)
  have hi:1 / xq=xq⁻¹:=by rw[bDj,Rat.one_mul]
  have hfi:fits xq⁻¹:=by rw[<-hi];exact yI h0 hf
  have h0i:xq⁻¹≠0:=by rw[<-hi];exact aE5 h0
  have hr2:r=.ok (uY xq⁻¹):=by rw[hr,aLq e2,hi];unfold uY;rw[if_neg h0i]
  have hqi:bV h xd xa xq⁻¹:=⟨by rw[rG xq hn];exact wx.fr.den,by rw[den_inv xq hn];exact wx.fr.num⟩
  have c2:=kZ h xa xd xq wx.fr hn;have c3:=mH h tb xd xa xq⁻¹ hqi hfi;have hxf:(⟨sg xq,xa,xd,xf,[],xq⟩:El).f.l=0:=by have:=wx.fac.rw.len;rw[fF] at this;dsimp only[List.length_nil] at this ⊢;omega
  have hs1:s.l=1:=hs;unfold FP;refine fPC ok _ D.q116 rfl ?_;conv=>whnf
  repeat' ((first|(show Idx _ _ _ _ _;refine Idx.el r1 0 _ rfl hx (fun ab ao aw=>?_))|(show Ld _ _ _ _;refine Ld.elf aw (aA.lr _) ?_)|(show LdN _ _ _ _ _;refine LdN.elq aw (aA.lr _) ?_)|(show CN _ _ _ _ _ _;first|refine CN.quiet rfl (Fn0.wP c2) ?_|refine CN.poly rfl c3 (fun p s h' hl e w=>?_) (fun n e=>by cases e))|((first|apply oI.z|apply cI.z))|intro (_:Nat)|(apply aD<;>intro _<;>try (exfalso;omega)))<;>conv=>whnf)
  all_goals exact RN.a (R:=mR r) ⟨p,s,hr2.trans e,rfl,w⟩
 .have hno:∀c,a≠[([],c)]:=fun c e=>hc (by
    rw[<-e1] at e;rcases l with _|⟨x,_|⟨y,l⟩⟩
    .cases e
    .exact⟨x,rfl,by injection e with e;exact (Prod.mk.inj e).1⟩
    .injection e with _ e;cases e)
  have hr2:=hr.trans (aQf hno);rw[hop] at hr2;have hl1:l.length=1->∃x,l[0]?=some x/\0<x.f.l:=fun e=>by
   match l,e,hc,t1 with
   | [x],_,hc,t1=>
    refine⟨x,rfl,?_⟩;have hm:x.m≠[]:=fun e=>hc ⟨x,rfl,e⟩
    have h1:=(t1 x (aZg.2 rfl)).fac.rw.len;rw[fF] at h1;have:=List.length_pos_iff.2 hm;omega
  obtain⟨X,hX⟩:=AE (aM b);rw[<-hX] at hr2;simp only[<-hX] at ct;have hXs:=bF X;have e4:4000<X.length->r=.error 4:=fun z=>hr2.trans (if_pos z)
  have e5:¬4000<X.length->r=eK (iS++b8 (bG (X,cX op) 3)):=fun z=>hr2.trans (if_neg z)
  have cl:=fun h=>aD7 h op
  obtain⟨V,hV⟩:=AE (cX op);rw[<-hV] at e5;simp only[<-hV] at cl;have e6:¬4000<X.length->V<3->r=eK (iS++b8 ([40]++X++[41])):=fun z z2=>by rw[e5 z,aQg z2]
  have e7:¬4000<X.length->¬V<3->r=eK (iS++b8 X):=fun z z2=>by rw[e5 z,aQh z2]
  have c6:∀h,Tb h->FP F.q117 [.string (txt ([49,32,47,32]++([40]++X++[41])))] h (eK (iS++b8 ([40]++X++[41]))):=fun h tb=>by rw[aI6];exact uF h tb _
  have c7:∀h,Tb h->FP F.q117 [.string (txt ([49,32,47,32]++X))] h (eK (iS++b8 X)):=fun h tb=>by rw[aI6];exact uF h tb _
  obtain⟨R6,hR6⟩:=AE (eK (iS++b8 ([40]++X++[41])));obtain⟨R7,hR7⟩:=AE (eK (iS++b8 X));simp only[<-hR6] at c6 e6;simp only[<-hR7] at c7 e7;clear e5 hr2 hr hX hV;have hX2:([40]++X++[41]).length=X.length+2:=by simp
  by_cases hL:l.length=1
  .obtain⟨x,hx,hxf⟩:=hl1 hL;unfold FP;refine fPC ok _ D.q116 rfl ?_;conv=>whnf
   repeat' first|((first|(apply aO.go)|(show Idx _ _ _ _ _;refine Idx.el r1 0 _ rfl hx (fun ab ao aw=>?_))|(show Ld _ _ _ _;first|refine Ld.elf aw (aA.lr _) ?_|refine Ld.o 0 rfl rfl ?_)|(show CN _ _ _ _ _ _;first|(refine CN.f rfl (Fn0.wP (ct _ tb pw wb0)) (fun v h' hl hr=>?_);subst hr)|refine CN.quiet rfl (Fn0.wP (cl _)) ?_|refine CN.poly rfl (c6 _ (tb.mono Ab)) (fun p s h' hl e w=>?_) (fun n e=>(e6 Aa Aa).trans e)|refine CN.poly rfl (c7 _ (tb.mono Ab)) (fun p s h' hl e w=>?_) (fun n e=>(e7 Aa Aa).trans e))|(show Ext _ _ _ _ _ _ _;refine Ext.iface rfl (fun m x=>by cases x) ?_)|(show Cat _ _ _;first|(refine Cat.txt (a:=[40]) (b:=X) rfl rfl (by show 1+_<=_;omega) ?_)|(refine Cat.txt (a:=[40]++X) (b:=[41]) rfl rfl (by rw[aY2];show 1+_+1<=_;omega) ?_)|(refine Cat.txt (a:=[49,32,47,32]) (b:=[40]++X++[41]) rfl rfl (by rw[hX2];show 4+_<=_;omega) ?_)|(refine Cat.txt (a:=[49,32,47,32]) (b:=X) rfl rfl (by show 4+_<=_;omega) ?_))|((first|apply oI.z|apply cI.z))|intro (_:Nat)|refine LdN.o 0 rfl rfl ?_)<;>conv=>whnf)|(show cnd _ _ _;first|((first|apply aB|apply aD)<;>intro _<;>first|(exfalso;omega)|conv=>whnf))
   all_goals first
    | exact RN.a (R:=mR r) ⟨p,s,(e6 Aa Aa).trans e,rfl,w⟩
    | exact RN.a (R:=mR r) ⟨p,s,(e7 Aa Aa).trans e,rfl,w⟩
    | exact Ext.panic ⟨4,e4 Aa,rfl⟩
  .unfold FP;refine fPC ok _ D.q116 rfl ?_;conv=>whnf
   repeat' first|((first|(apply aO.go)|(show CN _ _ _ _ _ _;first|(refine CN.f rfl (Fn0.wP (ct _ tb pw wb0)) (fun v h' hl hr=>?_);subst hr)|refine CN.quiet rfl (Fn0.wP (cl _)) ?_|refine CN.poly rfl (c6 _ (tb.mono Ab)) (fun p s h' hl e w=>?_) (fun n e=>(e6 Aa Aa).trans e)|refine CN.poly rfl (c7 _ (tb.mono Ab)) (fun p s h' hl e w=>?_) (fun n e=>(e7 Aa Aa).trans e))|(show Ext _ _ _ _ _ _ _;refine Ext.iface rfl (fun m x=>by cases x) ?_)|(show Cat _ _ _;first|(refine Cat.txt (a:=[40]) (b:=X) rfl rfl (by show 1+_<=_;omega) ?_)|(refine Cat.txt (a:=[40]++X) (b:=[41]) rfl rfl (by rw[aY2];show 1+_+1<=_;omega) ?_)|(refine Cat.txt (a:=[49,32,47,32]) (b:=[40]++X++[41]) rfl rfl (by rw[hX2];show 4+_<=_;omega) ?_)|(refine Cat.txt (a:=[49,32,47,32]) (b:=X) rfl rfl (by show 4+_<=_;omega) ?_))|((first|apply oI.z|apply cI.z))|intro (_:Nat)|refine LdN.o 0 rfl rfl ?_|refine Ld.o 0 rfl rfl ?_)<;>conv=>whnf)|(show cnd _ _ _;first|((first|apply aB|apply aD)<;>intro _<;>first|(exfalso;omega)|conv=>whnf))
   all_goals first
    | exact RN.a (R:=mR r) ⟨p,s,(e6 Aa Aa).trans e,rfl,w⟩
    | exact RN.a (R:=mR r) ⟨p,s,(e7 Aa Aa).trans e,rfl,w⟩
    | exact Ext.panic ⟨4,e4 Aa,rfl⟩
end Go.Proofs.Y
/- The form of every expression: the program. -/
namespace Go.Proofs.Y
open Go Go.Vc Go.Dig
attribute [local irreducible] Vc.Fn FnP
section
variable {e k k':Tr} {op arg:Int} {q:Rat} {a b c:Pol} {n:Nat} {rs:List (Tr × Except Nat Pol)}
theorem aWm:gO e 1 arg q rs=.ok (uY q):=if_pos rfl
theorem aT5(h1:op≠1)(h2:¬(4<=op/\op<=9)):gO e op arg q rs=eK (b8 (aM e)):=by unfold gO;rw[if_neg h1,if_neg h2]
theorem aCr(h1:op≠1)(h2:4<=op/\op<=9):gO e op arg q ((k,.error n)::rs)=.error n:=by unfold gO;rw[if_neg h1,if_pos h2]
theorem aT6(h1:op≠1)(h2:4<=op/\op<=9)(h4:op≠4)(h9:op≠9):gO e op arg q ((k,.ok a)::(k',.error n)::rs)=.error n:=by unfold gO;rw[if_neg h1,if_pos h2];dsimp only;rw[if_neg h4,if_neg h9]
theorem aWn:gO e 4 arg q ((k,.ok a)::rs)=cN (plL [] a (-1)):=by unfold gO;rw[if_neg Ag,if_pos Ag];dsimp only;rw[if_pos rfl]
theorem aWo:gO e 5 arg q ((k,.ok a)::(k',.ok b)::rs)=cN (plL a b 1):=by unfold gO;rw[if_neg Ag,if_pos Ag];dsimp only;rw[if_neg Ag,if_neg Ag,if_pos rfl]
theorem aWp:gO e 6 arg q ((k,.ok a)::(k',.ok b)::rs)=cN (plL a b (-1)):=by unfold gO;rw[if_neg Ag,if_pos Ag];dsimp only;rw[if_neg Ag,if_neg Ag,if_neg Ag,if_pos rfl]
theorem aWq:gO e 7 arg q ((k,.ok a)::(k',.ok b)::rs)=cN (tmL a b):=by unfold gO;rw[if_neg Ag,if_pos Ag];dsimp only;rw[if_neg Ag,if_neg Ag,if_neg Ag,if_neg Ag,if_pos rfl]
theorem aQi:gO e 8 arg q ((k,.ok a)::(k',.ok b)::rs)=match fK k' b with|.error n=>.error n|.ok c=>cN (tmL a c):=by unfold gO;rw[if_neg Ag,if_pos Ag];dsimp only;rw[if_neg Ag,if_neg Ag,if_neg Ag,if_neg Ag,if_neg Ag];rfl
theorem aWr(h:¬arg<0):gO e 9 arg q ((k,.ok a)::rs)=nJ a arg.natAbs:=by unfold gO;rw[if_neg Ag,if_pos Ag];dsimp only;rw[if_neg Ag,if_pos rfl,if_neg h]
theorem aI7(h:arg<0):gO e 9 arg q ((k,.ok a)::rs)=match fK k a with|.error n=>.error n|.ok c=>nJ c arg.natAbs:=by unfold gO;rw[if_neg Ag,if_pos Ag];dsimp only;rw[if_neg Ag,if_pos rfl,if_pos h];rfl
end
theorem aG7{a:Pol}{i n:Nat}(h:nJ a i=.error n):∀{N:Nat},i<=N->nJ a N=.error n
 | 0,hN=>by obtain rfl:i=0:=Aa;exact h
 | N+1,hN=>by
  by_cases e:i=N+1
  .subst e;exact h
  .have:=aG7 h (N:=N) Aa;unfold nJ;rw[this]
theorem aFc{a o:Pol}{i:Nat}(h:nJ a i=.ok o):nJ a (i+1)=cN (tmL o a):=by
 rw[nJ,h]
theorem aQj(h:aA):kK h ⟨none,0,0⟩ []:=⟨[],rfl,Rw.nil _ _,fun x hx=>by cases hx⟩
theorem aCs{k:Tr}{d:Nat}(hok:okT d k)(hsz:szT k<=300){p:Pol}(e:bT k=.ok p):∃S:List (List UInt8),S.length<=300/\Sok S/\PG S p:=by
 obtain⟨S,h1,h2,h3⟩:=qQ k d hok e;exact⟨S,Aa,h2,h3⟩
theorem aQk{S1 S2:List (List UInt8)}{a b:Pol}(h1:S1.length<=300)(h2:S2.length<=300)(o1:Sok S1)(o2:Sok S2)(g1:PG S1 a)(g2:PG S2 b):(S1++S2).length<=100000/\Sok (S1++S2)/\PG (S1++S2) a/\PG (S1++S2) b:=
 ⟨by rw[aY2];omega,fun s hs=>(aZb.1 hs).elim (o1 s) (o2 s),g1.mono fun s hs=>aZv _ hs,g2.mono fun s hs=>aZw _ hs⟩
theorem zD:∀(t:Tr) (d:Nat),okT d t->szT t<=300->∀(h:aA) (vs:List Value),Tb h->Pw h->IsE h vs t->FP F.q62 [.agg vs.toArray] h (bT t):=by
 refine dX fun t ih=>?_
 intro d hok hsz h vs tb pw w;have ct:=fun h tb pw w=>aB5 t d hok hsz h vs tb pw w
 have w0:=w;obtain⟨op,arg,neg,l,m,name,ks⟩:=t;obtain⟨va,vb,sk,rfl,-,harg,hval,-,hk⟩:=w.isK;have hok':=hok;rw[okT] at hok;obtain⟨hd30,hnb,hoks⟩:=hok;have hn1:=hnb.1;have hsz':=hsz;rw[szT] at hsz;have hP:bT (.mk op arg neg l m name ks)=gO (.mk op arg neg l m name ks) op arg (aK neg l m) (jG ks):=by rw[bT]
 have ih':∀k,k∈ks->∀(h:aA) (vs:List Value),Tb h->Pw h->IsE h vs k->FP F.q62 [.agg vs.toArray] h (bT k):=fun k hk=>by
  obtain⟨j,hj,e⟩:=List.mem_iff_getElem.1 hk;exact ih k (bM (j:=j) (by rw[aY4 hj,e])) (d+1) (dY hoks hk) (by have:=nA hk;omega)
 obtain⟨r,hr⟩:=AE (bT (.mk op arg neg l m name ks));rw[<-hr];rw[<-hr] at hP;by_cases o1:op=1
 .subst o1;have hR:=fE h tb neg va vb l m hval;have hnum:=hnb.2.2.2.2;rw[if_pos rfl] at hnum;have hokR:=hnum.1;have hz:=hokR.sz;have hr2:r=.ok (uY (aK neg l m)):=hP.trans aWm;unfold FP;refine fPC ok _ D.q62 rfl ?_;conv=>whnf
  repeat' ((first|(apply aO.go)|(show LdN _ _ _ _ _;refine LdN.oA 0 rfl rfl ?_)|(show CN _ _ _ _ _ _;first|(refine CN.f rfl (Fn0.wP hR) (fun v h' hl hr'=>?_);obtain⟨s9,c9,d9,rfl,hq9⟩:=hr';obtain⟨rfl,hfr⟩:=hq9 hokR)|(refine CN.poly rfl (mH _ (tb.mono Ab) c9 d9 _ (hfr.mono Ad) ⟨hz.num,hz.den⟩) (fun p s h' hl e w=>?_) (fun n e=>hr2.trans e)))|((first|apply oI.z|apply cI.z))|intro (_:Nat)|refine Ld.o 0 rfl rfl ?_|refine Sto.l 0 rfl rfl rfl ?_|(apply aD<;>intro _<;>try (exfalso;omega)))<;>conv=>whnf)
  all_goals exact RN.a (R:=mR r) ⟨p,s,hr2.trans e,rfl,w⟩
 by_cases o2:¬(4<=op/\op<=9)
 .have hr2:r=eK (b8 (aM (.mk op arg neg l m name ks))):=hP.trans (aT5 o1 o2);obtain⟨X,hX⟩:=AE (aM (.mk op arg neg l m name ks));rw[<-hX] at hr2;simp only[<-hX] at ct;have c2:∀h,Tb h->FP F.q117 [.string (txt X)] h r:=fun h tb=>by rw[hr2];exact uF h tb _
  unfold FP;refine fPC ok _ D.q62 rfl ?_;conv=>whnf
  repeat' ((first|(apply aO.go)|(show LdN _ _ _ _ _;refine LdN.oA 0 rfl rfl ?_)|(show CN _ _ _ _ _ _;first|(refine CN.f rfl (Fn0.wP (ct _ tb pw w0)) (fun v h' hl hr'=>?_);subst hr')|refine CN.poly rfl (c2 _ (tb.mono Ab)) (fun p s h' hl e w=>?_) (fun n e=>e))|((first|apply oI.z|apply cI.z))|intro (_:Nat)|refine Ld.o 0 rfl rfl ?_|(apply aD<;>intro _<;>try (exfalso;omega)))<;>conv=>whnf)
  all_goals exact RN.a (R:=mR r) ⟨p,s,e,rfl,w⟩
 replace o2:=Decidable.not_not.1 o2;by_cases o4:op=4
 .subst o4;obtain⟨k,rfl⟩:=aX2 hn1 rfl;have hk0:([k]:List Tr)[0]?=some k:=rfl;have c1:=ih' k (aZg.2 rfl);rw[jG,jG] at hP;have f1:∀n,bT k=.error n->r=.error n:=fun n e=>by rw[hP,e];exact aCr o1 o2
  have f2:∀p,bT k=.ok p->r=cN (plL [] p ((-1:Int):Rat)):=fun p e=>by rw[hP,e];exact aWn
  have gk:∀p,bT k=.ok p->oV p:=fun p e=>(qQ k (d+1) (dY hoks (aZg.2 rfl)) e).elim fun S x=>x.2.2.good
  unfold FP;refine fPC ok _ D.q62 rfl ?_;conv=>whnf
  repeat' ((first|(apply aO.go)|(show Idx _ _ _ _ _;refine Idx.kid hk 0 k rfl hk0 (fun ad op2 arg2 neg2 a2 b2 name2 s2 hE hld=>?_))|(refine hld _ _ _ Ad ?_)|((first|apply oI.z|apply cI.z))|intro (_:Nat)|(show CN _ _ _ _ _ _;first|(refine CN.poly rfl (c1 _ _ (tb.mono Ad) (pw.mono Ad) (hE.mono Ad)) (fun p s h' hl e w=>?_) f1)|refine CN.poly rfl (aCq _ (tb.mono Ab) ⟨none,0,0⟩ s [] p (-1) (.inr rfl) (aQj _) w yH (gk p e)) (fun p2 s2 h2 hl2 e2 w2=>?_) (fun n e3=>(f2 p e).trans e3))|refine Ld.o 0 rfl rfl ?_|(apply aD<;>intro _<;>try (exfalso;omega)))<;>conv=>whnf)
  all_goals exact RN.a (R:=mR r) ⟨p2,s2,(f2 p e).trans e2,rfl,w2⟩
 by_cases o9:op=9
 .subst o9;obtain⟨k,rfl⟩:=aX2 hn1 rfl;have hk0:([k]:List Tr)[0]?=some k:=rfl;have hkm:k∈[k]:=aZg.2 rfl;have c1:=ih' k hkm;have hokk:=dY hoks hkm;have hszk:szT k<=300:=by have:=nA hkm;omega
  rw[jG,jG] at hP;have f1:∀n,bT k=.error n->r=.error n:=fun n e=>by rw[hP,e];exact aCr o1 o2
  have gk:∀p,bT k=.ok p->oV p:=fun p e=>(qQ k (d+1) hokk e).elim fun S x=>x.2.2.good
  have kg:∀p,bT k=.ok p->∃S:List (List UInt8),S.length<=300/\Sok S/\PG S p:=fun p e=>aCs hokk hszk e
  have cr:∀(h:aA) (vs:List Value) (s:Sl) (p:Pol),Tb h->Pw h->IsE h vs k->kK h s p->bT k=.ok p->FP F.q116 [.agg vs.toArray,s.val] h (fK k p):=fun h vs s p tb pw w wp e=>qY h tb pw k (d+1) hokk hszk vs w s p wp (gk p e)
  have hab:-32<=arg/\arg<=32:=⟨hnb.2.1,hnb.2.2.1⟩;by_cases ha:arg<0
  .have f3:∀p n,bT k=.ok p->fK k p=.error n->r=.error n:=fun p n e e2=>by rw[hP,e,aI7 ha,e2]
   have f4:∀p c,bT k=.ok p->fK k p=.ok c->r=nJ c arg.natAbs:=fun p c e e2=>by rw[hP,e,aI7 ha,e2]
   obtain⟨N,hN⟩:=AE arg.natAbs;unfold FP;refine fPC ok _ D.q62 rfl ?_;conv=>whnf
   repeat' first|((first|(apply aO.go)|(show DrN _ _ _ _ _ _;refine DrN.run Al ?_)|(show Idx _ _ _ _ _;refine Idx.kid hk 0 k rfl hk0 (fun ad0 op0 arg0 neg0 a0 b0 name0 s0 hE0 hld0=>?_))|(refine hld0 _ _ _ Ad ?_)|((first|apply oI.z|apply cI.z))|refine⟨fun _=>aF.o Ab,?_⟩|intro (_:Nat)|(show CN _ _ _ _ _ _;first|(refine CN.poly rfl (c1 _ _ (tb.mono Ad) (pw.mono Ad) (hE0.mono Ad)) (fun p s h7 hl7 e7 w7=>?_) f1)|refine CN.poly rfl (cr _ _ _ p (tb.mono Ab) (pw.mono Ab) (hE0.mono Ab) w7 e7) (fun c s2 h8 hl8 e8 w8=>?_) (fun n e=>f3 p n e7 e)|(refine CN.f rfl (Fn0.wP (nX _ 1 Ag Ag)) (fun v h6 hl6 hr6=>?_);obtain⟨u1,u2,rfl,hu⟩:=hr6)|(refine CN.poly rfl (mH _ (tb.mono Ac) u1 u2 _ hu fA) (fun p0 s0 h9 hl9 e9 w0'=>?_) (fun n e=>by cases e)))|refine WN.i64 Aa Aa ?_|refine Ld.o 0 rfl rfl ?_)<;>conv=>whnf)|(show cnd _ _ _;first|((first|apply aB|apply aD)<;>intro _<;>first|(exfalso;omega)|conv=>whnf))
   have hp0:p0=[([],1)]:=by injection e9 with e9;rw[<-e9];rfl
   have tb9:Tb h9:=tb.mono Ac;obtain⟨B,hB⟩:=AE c;obtain⟨S,hS,hSo,gB⟩:=sZ (gk p e7) e8;rw[<-hB] at gB e8 w8;have hrB:r=nJ B N:=by rw[hN];exact f4 p B e7 e8
   have wB:kK h9 s2 B:=w8.mono Ac;refine LpN.of (fun q ρ hx L=>∃(i:Nat) (o:Pol) (so:Sl),q=N-i/\h9.le hx/\i<=N/\rd ρ 115=.int .i64 i/\rd ρ 11=so.val/\kK hx so o/\PG S o/\Hq (nJ B i=.ok o)) N
    ⟨0,p0,s0,rfl,aA.lr _,aZs _,rfl,rfl,w0',by rw[hp0];exact aCo S,⟨by rw[hp0];rfl⟩⟩ ?_
   conv=>whnf
   repeat intro _
   rename_i q3 h3 L3 hI;obtain⟨i,o,so,rfl,hle3,hi,e115,e11,wo,go,⟨ho⟩⟩:=hI;conv at e11=>lhs;whnf
   subst e11;conv at e115=>lhs;whnf
   subst e115;by_cases hiN:i=N
   .have hfin:r=.ok o:=hrB.trans (by rw[<-hiN];exact ho);conv=>whnf
    repeat' ((first|((first|apply oI.z|apply cI.z))|(apply aB<;>intro _<;>try (exfalso;omega)))<;>conv=>whnf)
    exact RN.a (R:=mR r) ⟨o,so,hfin,rfl,wo⟩
   .have hnx:=aFc ho;have c9:=fun h tb w1 w2=>tC h tb S Aa hSo so s2 o B w1 w2 go gB
    conv=>whnf
    repeat' ((first|(show CN _ _ _ _ _ _;(refine CN.poly rfl (c9 _ (tb9.mono Ab) (wo.mono Ad) (wB.mono Ab)) (fun p5 s5 h5 hl5 e5 w5=>?_) (fun n e=>hrB.trans (aG7 (hnx.trans e) Aa))))|((first|apply oI.z|apply cI.z))|refine WN.i64 Aa Aa ?_|(apply aB<;>intro _<;>try (exfalso;omega)))<;>conv=>whnf)
    exact⟨rfl,N-(i+1),Aa,i+1,p5,s5,rfl,Ac,Aa,vi Aa,rfl,w5,aE4 go.key gB.key e5,⟨hnx.trans e5⟩⟩
  .have f2:∀p,bT k=.ok p->r=nJ p arg.natAbs:=fun p e=>by rw[hP,e];exact aWr ha
   obtain⟨N,hN⟩:=AE arg.natAbs;unfold FP;refine fPC ok _ D.q62 rfl ?_;conv=>whnf
   repeat' first|((first|(apply aO.go)|(show DrN _ _ _ _ _ _;refine DrN.run Al ?_)|(show Idx _ _ _ _ _;refine Idx.kid hk 0 k rfl hk0 (fun ad0 op0 arg0 neg0 a0 b0 name0 s0 hE0 hld0=>?_))|(refine hld0 _ _ _ Ad ?_)|((first|apply oI.z|apply cI.z))|refine⟨fun _=>aF.o Ab,?_⟩|intro (_:Nat)|(show CN _ _ _ _ _ _;first|(refine CN.poly rfl (c1 _ _ (tb.mono Ad) (pw.mono Ad) (hE0.mono Ad)) (fun p s h7 hl7 e7 w7=>?_) f1)|(refine CN.f rfl (Fn0.wP (nX _ 1 Ag Ag)) (fun v h6 hl6 hr6=>?_);obtain⟨u1,u2,rfl,hu⟩:=hr6)|(refine CN.poly rfl (mH _ (tb.mono Ac) u1 u2 _ hu fA) (fun p0 s0 h9 hl9 e9 w0'=>?_) (fun n e=>by cases e)))|refine Ld.o 0 rfl rfl ?_)<;>conv=>whnf)|(show cnd _ _ _;first|((first|apply aB|apply aD)<;>intro _<;>first|(exfalso;omega)|conv=>whnf))
   have hp0:p0=[([],1)]:=by injection e9 with e9;rw[<-e9];rfl
   have tb9:Tb h9:=tb.mono Ac;obtain⟨B,hB⟩:=AE p;rw[<-hB] at w7 e7;obtain⟨S,hS,hSo,gB⟩:=kg B e7;have hrB:r=nJ B N:=by rw[hN];exact f2 B e7
   have wB:kK h9 s B:=w7.mono Ac;refine LpN.of (fun q ρ hx L=>∃(i:Nat) (o:Pol) (so:Sl),q=N-i/\h9.le hx/\i<=N/\rd ρ 115=.int .i64 i/\rd ρ 11=so.val/\kK hx so o/\PG S o/\Hq (nJ B i=.ok o)) N
    ⟨0,p0,s0,rfl,aA.lr _,aZs _,rfl,rfl,w0',by rw[hp0];exact aCo S,⟨by rw[hp0];rfl⟩⟩ ?_
   conv=>whnf
   repeat intro _
   rename_i q3 h3 L3 hI;obtain⟨i,o,so,rfl,hle3,hi,e115,e11,wo,go,⟨ho⟩⟩:=hI;conv at e11=>lhs;whnf
   subst e11;conv at e115=>lhs;whnf
   subst e115;by_cases hiN:i=N
   .have hfin:r=.ok o:=hrB.trans (by rw[<-hiN];exact ho);conv=>whnf
    repeat' ((first|((first|apply oI.z|apply cI.z))|(apply aB<;>intro _<;>try (exfalso;omega)))<;>conv=>whnf)
    exact RN.a (R:=mR r) ⟨o,so,hfin,rfl,wo⟩
   .have hnx:=aFc ho;have c9:=fun h tb w1 w2=>tC h tb S Aa hSo so s o B w1 w2 go gB
    conv=>whnf
    repeat' ((first|(show CN _ _ _ _ _ _;(refine CN.poly rfl (c9 _ (tb9.mono Ab) (wo.mono Ad) (wB.mono Ab)) (fun p5 s5 h5 hl5 e5 w5=>?_) (fun n e=>hrB.trans (aG7 (hnx.trans e) Aa))))|((first|apply oI.z|apply cI.z))|refine WN.i64 Aa Aa ?_|(apply aB<;>intro _<;>try (exfalso;omega)))<;>conv=>whnf)
    exact⟨rfl,N-(i+1),Aa,i+1,p5,s5,rfl,Ac,Aa,vi Aa,rfl,w5,aE4 go.key gB.key e5,⟨hnx.trans e5⟩⟩
 obtain⟨k,k',rfl⟩:=aYs hn1 (by unfold aV;rw[if_neg Aa,if_neg Aa,if_pos Aa]);have hk0:([k,k']:List Tr)[0]?=some k:=rfl;have hk1:([k,k']:List Tr)[1]?=some k':=rfl;have hm0:k∈[k,k']:=by simp
 have hm1:k'∈[k,k']:=by simp
 have c1:=ih' k hm0;have c2:=ih' k' hm1;have hok0:=dY hoks hm0;have hok1:=dY hoks hm1;have hsz0:szT k<=300:=by have:=nA hm0;omega
 have hsz1:szT k'<=300:=by have:=nA hm1;omega
 rw[jG,jG,jG] at hP;have f1:∀n,bT k=.error n->r=.error n:=fun n e=>by rw[hP,e];exact aCr o1 o2
 have f2:∀p n,bT k=.ok p->bT k'=.error n->r=.error n:=fun p n e e2=>by rw[hP,e,e2];exact aT6 o1 o2 o4 o9
 have gk:∀p,bT k=.ok p->oV p:=fun p e=>(qQ k (d+1) hok0 e).elim fun S x=>x.2.2.good
 have gk':∀p,bT k'=.ok p->oV p:=fun p e=>(qQ k' (d+1) hok1 e).elim fun S x=>x.2.2.good
 have cm:∀(h:aA) (s1 s2:Sl) (p p2:Pol),Tb h->kK h s1 p->kK h s2 p2->bT k=.ok p->bT k'=.ok p2->FP F.q115 [s1.val,s2.val] h (cN (tmL p p2)):=fun h s1 s2 p p2 tb w1 w2 e1 e2=>by
  obtain⟨S1,z1,q1,g1⟩:=aCs hok0 hsz0 e1;obtain⟨S2,z2,q2,g2⟩:=aCs hok1 hsz1 e2;obtain⟨z,q,g1,g2⟩:=aQk z1 z2 q1 q2 g1 g2;exact tC h tb _ z q s1 s2 p p2 w1 w2 g1 g2
 have cr:∀(h:aA) (vs:List Value) (s:Sl) (p:Pol),Tb h->Pw h->IsE h vs k'->kK h s p->bT k'=.ok p->FP F.q116 [.agg vs.toArray,s.val] h (fK k' p):=fun h vs s p tb pw w wp e=>qY h tb pw k' (d+1) hok1 hsz1 vs w s p wp (gk' p e)
 have cd:∀(h:aA) (s1 s2:Sl) (p p2 c:Pol),Tb h->kK h s1 p->kK h s2 c->bT k=.ok p->bT k'=.ok p2->fK k' p2=.ok c->FP F.q115 [s1.val,s2.val] h (cN (tmL p c)):=fun h s1 s2 p p2 c tb w1 w2 e1 e2 e3=>by
  obtain⟨S1,z1,q1,g1⟩:=aCs hok0 hsz0 e1;obtain⟨S2,z2,q2,g2⟩:=sZ (gk' p2 e2) e3;obtain⟨z,q,g1,g2⟩:=aQk z1 Aa q1 q2 g1 g2;exact tC h tb _ z q s1 s2 p c w1 w2 g1 g2
 by_cases o5:op=5
 .subst o5;have f3:∀p p2,bT k=.ok p->bT k'=.ok p2->r=cN (plL p p2 ((1:Int):Rat)):=fun p p2 e e2=>by rw[hP,e,e2];exact aWo
  unfold FP;refine fPC ok _ D.q62 rfl ?_;conv=>whnf
  repeat' ((first|(apply aO.go)|(show Idx _ _ _ _ _;first|refine Idx.kid hk 0 k rfl hk0 (fun ad0 op0 arg0 neg0 a0 b0 name0 s0 hE0 hld0=>?_)|refine Idx.kid hk 1 k' rfl hk1 (fun ad1 op1 arg1 neg1 a1 b1 name1 s1 hE1 hld1=>?_))|(refine hld0 _ _ _ Ad ?_)|refine hld1 _ _ _ Ab ?_|((first|apply oI.z|apply cI.z))|intro (_:Nat)|(show CN _ _ _ _ _ _;first|(refine CN.poly rfl (c1 _ _ (tb.mono Ad) (pw.mono Ad) (hE0.mono Ad)) (fun p s h7 hl7 e7 w7=>?_) f1)|refine CN.poly rfl (c2 _ _ (tb.mono Ab) (pw.mono Ab) (hE1.mono Ab)) (fun p2 s2 h8 hl8 e8 w8=>?_) (fun n e=>f2 p n e7 e)|(refine CN.poly rfl (aCq _ (tb.mono Ac) s s2 p p2 1 (.inl rfl) (w7.mono Ab) (w8.mono Ad) (gk p e7) (gk' p2 e8)) (fun p3 s3 h9 hl9 e3 w3=>?_) (fun n e=>(f3 p p2 e7 e8).trans e)))|refine Ld.o 0 rfl rfl ?_|(apply aD<;>intro _<;>try (exfalso;omega)))<;>conv=>whnf)
  all_goals exact RN.a (R:=mR r) ⟨p3,s3,(f3 p p2 e7 e8).trans e3,rfl,w3⟩
 by_cases o6:op=6
 .subst o6;have f3:∀p p2,bT k=.ok p->bT k'=.ok p2->r=cN (plL p p2 ((-1:Int):Rat)):=fun p p2 e e2=>by rw[hP,e,e2];exact aWp
  unfold FP;refine fPC ok _ D.q62 rfl ?_;conv=>whnf
  repeat' ((first|(apply aO.go)|(show Idx _ _ _ _ _;first|refine Idx.kid hk 0 k rfl hk0 (fun ad0 op0 arg0 neg0 a0 b0 name0 s0 hE0 hld0=>?_)|refine Idx.kid hk 1 k' rfl hk1 (fun ad1 op1 arg1 neg1 a1 b1 name1 s1 hE1 hld1=>?_))|(refine hld0 _ _ _ Ad ?_)|refine hld1 _ _ _ Ab ?_|((first|apply oI.z|apply cI.z))|intro (_:Nat)|(show CN _ _ _ _ _ _;first|(refine CN.poly rfl (c1 _ _ (tb.mono Ad) (pw.mono Ad) (hE0.mono Ad)) (fun p s h7 hl7 e7 w7=>?_) f1)|refine CN.poly rfl (c2 _ _ (tb.mono Ab) (pw.mono Ab) (hE1.mono Ab)) (fun p2 s2 h8 hl8 e8 w8=>?_) (fun n e=>f2 p n e7 e)|(refine CN.poly rfl (aCq _ (tb.mono Ac) s s2 p p2 (-1) (.inr rfl) (w7.mono Ab) (w8.mono Ad) (gk p e7) (gk' p2 e8)) (fun p3 s3 h9 hl9 e3 w3=>?_) (fun n e=>(f3 p p2 e7 e8).trans e)))|refine Ld.o 0 rfl rfl ?_|(apply aD<;>intro _<;>try (exfalso;omega)))<;>conv=>whnf)
  all_goals exact RN.a (R:=mR r) ⟨p3,s3,(f3 p p2 e7 e8).trans e3,rfl,w3⟩
 by_cases o7:op=7
 .subst o7;have f3:∀p p2,bT k=.ok p->bT k'=.ok p2->r=cN (tmL p p2):=fun p p2 e e2=>by rw[hP,e,e2];exact aWq
  unfold FP;refine fPC ok _ D.q62 rfl ?_;conv=>whnf
  repeat' ((first|(apply aO.go)|(show Idx _ _ _ _ _;first|refine Idx.kid hk 0 k rfl hk0 (fun ad0 op0 arg0 neg0 a0 b0 name0 s0 hE0 hld0=>?_)|refine Idx.kid hk 1 k' rfl hk1 (fun ad1 op1 arg1 neg1 a1 b1 name1 s1 hE1 hld1=>?_))|(refine hld0 _ _ _ Ad ?_)|refine hld1 _ _ _ Ab ?_|((first|apply oI.z|apply cI.z))|intro (_:Nat)|(show CN _ _ _ _ _ _;first|(refine CN.poly rfl (c1 _ _ (tb.mono Ad) (pw.mono Ad) (hE0.mono Ad)) (fun p s h7 hl7 e7 w7=>?_) f1)|refine CN.poly rfl (c2 _ _ (tb.mono Ab) (pw.mono Ab) (hE1.mono Ab)) (fun p2 s2 h8 hl8 e8 w8=>?_) (fun n e=>f2 p n e7 e)|(refine CN.poly rfl (cm _ s s2 p p2 (tb.mono Ac) (w7.mono Ab) (w8.mono Ad) e7 e8) (fun p3 s3 h9 hl9 e3 w3=>?_) (fun n e=>(f3 p p2 e7 e8).trans e)))|refine Ld.o 0 rfl rfl ?_|(apply aD<;>intro _<;>try (exfalso;omega)))<;>conv=>whnf)
  all_goals exact RN.a (R:=mR r) ⟨p3,s3,(f3 p p2 e7 e8).trans e3,rfl,w3⟩
 .obtain rfl:op=8:=Aa;have f3:∀p p2 n,bT k=.ok p->bT k'=.ok p2->fK k' p2=.error n->r=.error n:=fun p p2 n e e2 e3=>by rw[hP,e,e2,aQi,e3]
  have f4:∀p p2 c,bT k=.ok p->bT k'=.ok p2->fK k' p2=.ok c->r=cN (tmL p c):=fun p p2 c e e2 e3=>by rw[hP,e,e2,aQi,e3]
  unfold FP;refine fPC ok _ D.q62 rfl ?_;conv=>whnf
  repeat' ((first|(apply aO.go)|(show DrN _ _ _ _ _ _;refine DrN.run Al ?_)|(show Idx _ _ _ _ _;first|refine Idx.kid hk 0 k rfl hk0 (fun ad0 op0 arg0 neg0 a0 b0 name0 s0 hE0 hld0=>?_)|refine Idx.kid hk 1 k' rfl hk1 (fun ad1 op1 arg1 neg1 a1 b1 name1 s1 hE1 hld1=>?_))|(refine hld0 _ _ _ Ad ?_)|refine hld1 _ _ _ Ab ?_|((first|apply oI.z|apply cI.z))|refine⟨fun _=>aF.o Ab,?_⟩|intro (_:Nat)|(show CN _ _ _ _ _ _;first|(refine CN.poly rfl (c1 _ _ (tb.mono Ad) (pw.mono Ad) (hE0.mono Ad)) (fun p s h7 hl7 e7 w7=>?_) f1)|refine CN.poly rfl (c2 _ _ (tb.mono Ab) (pw.mono Ab) (hE1.mono Ab)) (fun p2 s2 h8 hl8 e8 w8=>?_) (fun n e=>f2 p n e7 e)|(refine CN.poly rfl (cr _ _ s2 p2 (tb.mono Ac) (pw.mono Ac) Af w8 e8) (fun c sc h8c hl8c e8c w8c=>?_) (fun n e=>f3 p p2 n e7 e8 e))|(refine CN.poly rfl (cd _ s sc p p2 c (tb.mono Ac) (w7.mono Ac) (w8c.mono Ad) e7 e8 e8c) (fun p3 s3 h9 hl9 e3 w3=>?_) (fun n e=>(f4 p p2 c e7 e8 e8c).trans e)))|refine Ld.o 0 rfl rfl ?_|(apply aD<;>intro _<;>try (exfalso;omega)))<;>conv=>whnf)
  all_goals exact RN.a (R:=mR r) ⟨p3,s3,(f4 p p2 c e7 e8 e8c).trans e3,rfl,w3⟩
end Go.Proofs.Y