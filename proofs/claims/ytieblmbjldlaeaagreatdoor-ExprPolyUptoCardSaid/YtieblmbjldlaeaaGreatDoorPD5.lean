/- Sums, products, reciprocals of forms: the program. -/
import Derived.Test.YtieblmbjldlaeaaGreatDoorPJ4
set_option linter.all false
set_option maxHeartbeats 4000000
set_option maxRecDepth 20000
namespace Go.Vc
open Go Go.Dig
theorem App.growM {T:Tab} {e:TypeId} {size bytes:Nat} {s:Value} {h:aA} {A Fx:Vc.Own} {k:Value→aA→Vc.Own→Prop} {z:List Value} {n:Nat} {xs:List Value}
  (hi:T.inf e=some (z,bytes)) (hz:z.length=size) (g:aD e size s n xs Fx)
  (ad:Addr) (m c:Nat) (news:List Value) (hl:news.length=m*size) (hnews:∀j,j<news.length→Has h (A++Fx) (ad.add j) (news.getD j undef)) (ho:news.all eK=true)
  (hm0:0<m) (hm:n+m≤70368744177664) (hby:(n+m)*bytes≤140737488355328) (hsz:0<size)
  (hk:∀v' F',aD e size v' (n+m) (xs++news) F'→(∀x∈A,x∈F')→k v' h F'):App T e size bytes s (.slice (some ad) m c) h (A++Fx) k:=by
 have:=App.growA (tl:=[]) hi hz g ad m c news hl (by rw [aVy];exact hnews) ho hm0 hm hby hsz (k:=k) (fun v' F' g' hA=>by rw [aVy];exact hk v' F' g' hA)
 rwa [aVy] at this
end Go.Vc
namespace Go.Proofs.Y
open Go Go.Vc Go.Dig
attribute [local irreducible] Vc.Fn FnP
theorem zN (h:aA) (tb:Tb h) (s1 s2:Sl) (a b:Pol) (k:Int) (hk:k=1∨k=-1) (w1:iS h s1 a) (w2:iS h s2 b) (g1:gW a) (g2:gW b):FP F.q66 [s1.val,s2.val,.int .i64 k] h (bH (plL a b (k:Rat))):=by
 obtain ⟨l1,e1,r1,t1⟩:=w1
 obtain ⟨l2,e2,r2,t2⟩:=w2
 have hl1:l1.length≤200:=by have:=g1.len;rw [← e1,aWb] at this;exact this
 have hl2:l2.length≤200:=by have:=g2.len;rw [← e2,aWb] at this;exact this
 have z1:∀x∈l1,Sz 64 x.q:=fun x hx=>oW (g1.fit (pq x) (by rw [← e1];exact List.mem_map_of_mem hx))
 have z2:∀x∈l2,Sz 64 x.q:=fun x hx=>oW (g2.fit (pq x) (by rw [← e2];exact List.mem_map_of_mem hx))
 have hs2:s2.l=l2.length:=by have:=r2.len;rw [aV] at this;omega
 have zk:=aDt hk
 have hkb:-9223372036854775808≤k∧k≤9223372036854775807:=by omega
 have c1:=aHi h s1 l1 r1 (by omega)
 obtain ⟨r,hr⟩:∃r,r=bH (plL a b (k:Rat)):=⟨_,rfl⟩
 rw [← hr]
 obtain ⟨K,hK⟩:∃K:Rat,K=(k:Rat):=⟨_,rfl⟩
 have c2:=fun h=>sH h k hkb.1 hkb.2
 rw [← hK] at hr zk
 simp only [← hK] at c2
 unfold FP
 refine fPC ok _ D.q66 rfl ?_
 conv=>whnf
 repeat' first|((first|(show CN _ _ _ _ _ _;(refine CN.new rfl (Fn.wP c1) (fun v h' La hl hr'=>?_);obtain ⟨rfl,g⟩:=hr';clear hl))|((first|apply oI.z|apply cI.z))) <;> (conv=>whnf))
 refine LpN.of (fun r ρ hx L=>∃(i:Nat) (M:List El) (v:Value),r=l2.length-i∧h'.le hx∧i≤l2.length∧rd ρ 14=.int .i64 i∧rd ρ 7=v∧aD Ty.expr_term 4 v (l1.length+i) (fl (l1++M)) L∧M.length=i∧Hq (M.map pq=((l2.take i).map pq).map fun t=>(t.1,t.2*K))∧Hq (∀x∈l1++M,TmW hx x∧Sz 130 x.q)) l2.length
  ⟨0,[],_,rfl,aA.lr _,aWe _,rfl,rfl,by rw [aVy,aVy];exact g,rfl,⟨rfl⟩,⟨fun x hx=>by rw [aVy] at hx;exact ⟨t1 x hx,(z1 x hx).mono (by decide)⟩⟩⟩ ?_
 clear g
 conv=>whnf
 repeat intro _
 rename_i q2 h2 L2 hI
 obtain ⟨i,M,v,rfl,hle,hi,e14,e7,g,hM,⟨hq⟩,⟨hw⟩⟩:=hI
 conv at e7=>lhs;whnf
 subst e7
 conv at e14=>lhs;whnf
 subst e14
 have r2x:=r2.mono hle
 replace tb:=tb.mono hle
 by_cases hil:i=l2.length
 ·have hr2:bH ((l1++M).map pq)=r:=by
   rw [hr,aV3,hq,hil,aV4,e1,e2];rfl
  conv=>whnf
  repeat' first|((first|refine qO tb g (by rw [aVo,hM]) (by omega) hw hr2 (fun p s h' L' hl e w=>?_) (fun n e=>e)|((first|apply oI.z|apply cI.z))) <;> (conv=>whnf))|(apply aB<;>intro _<;>first|(exfalso;omega)|conv=>whnf)
  exact RN.a (R:=kJ r) ⟨p,s,e,rfl,w⟩
 ·obtain ⟨x,hx⟩:∃t,l2[i]?=some t:=⟨_,aVq (by omega)⟩
  have wx:=(t2 x (aVu hx)).mono hle
  have zx:=z2 x (aVu hx)
  have hsn:=aZ hx
  obtain ⟨xn,xa,xd,xf,xm,xq⟩:=x
  obtain rfl:xn=sg xq:=wx.sg
  have c3:=fun h tb (c d:Sl) w1 w2=>aEa h tb xa xd c d xq K w1 w2 (zx.mono (by decide)) (zk.mono (by decide))
  have wxf:=wx.fr
  conv=>whnf
  repeat' first|((first|(show Idx _ _ _ _ _;refine Idx.el r2x i _ (by omega) hx (fun ab ao aw=>?_))|(show LdN _ _ _ _ _;first|(refine LdN.el4 aw (by first|assumption|exact aA.lr _) ?_)|refine LdN.oA 0 rfl rfl ?_)|(show DrN _ _ _ _ _ _;refine DrN.own [_] (List.Sublist.cons_cons _ (List.nil_sublist _)) (by decide +kernel) ?_)|refine ⟨fun _=>⟨aH.o (aA.lr _),List.singleton_sublist.2 (hA _ (aVz _ (aVw)))⟩,?_⟩|(refine ⟨fun _=>⟨aH.o (by first|exact aA.lr _|assumption|exact aA.lt (by assumption) (by assumption)),by repeat first|exact List.nil_sublist _|apply List.Sublist.cons_cons|refine List.Sublist.trans ?_ (List.sublist_append_right _ _)|apply List.Sublist.cons⟩,?_⟩)|((first|apply oI.z|apply cI.z))|intro (_:Nat)|(show CN _ _ _ _ _ _;first|(refine CN.f rfl (Fn0.wP (c2 _)) (fun v h' hl hr'=>?_);obtain ⟨i1,i2,rfl,hi'⟩:=hr')|(refine CN.f rfl (Fn0.wP (c3 _ (by (iterate 30 try first|assumption|refine Tb.mono ?_ (by assumption));first|done|assumption) _ _ (wxf.mono (by assumption)) (by assumption))) (fun v h' hl hr'=>?_);obtain ⟨m1,m2,rfl,hm'⟩:=hr'))|(show App _ _ _ _ _ _ _ _ _;refine App.growM (A:=[_,_]) (Fx:=L2) (size:=4) (bytes:=80) (z:=[.bool false,.slice none 0 0,.slice none 0 0,.slice none 0 0]) rfl rfl g ⟨_,0,none⟩ 1 1 [_,_,_,_] rfl (Has.four _) rfl (by decide) (by omega) (by omega) (by decide) (fun v' F' g' hA=>?_))|refine WN.i64 (by omega) (by omega) ?_|refine Ld.o 0 rfl rfl ?_|refine Sto.l 0 rfl rfl rfl ?_) <;> (conv=>whnf))|(apply aB<;>intro _<;>first|(exfalso;omega)|conv=>whnf)
  ·have hMx:(M++[(⟨sg (xq*K),m1,m2,xf,xm,xq*K⟩:El)]).map pq=((l2.take (i+1)).map pq).map fun t=>(t.1,t.2*K):=by
    rw [aV3,hq,hsn,aV3,aV3];rfl
   exact ⟨rfl,l2.length-(i+1),by omega,i+1,M++[⟨sg (xq*K),m1,m2,xf,xm,xq*K⟩],_,rfl,(by (iterate 30 try first|assumption|refine aA.lt ?_ (by assumption));first|done|assumption),by omega,vi (by omega),rfl,by rw [← aVt];exact aD.el g',by rw [aVo,hM];rfl,⟨hMx⟩,⟨fun x hx=>by
     rw [← aVt] at hx
     rcases aVx.1 hx with hx|hx
     ·exact ⟨(hw x hx).1.mono (by (iterate 30 try first|assumption|refine aA.lt ?_ (by assumption));first|done|assumption),(hw x hx).2⟩
     ·rw [aV2] at hx;subst hx;exact ⟨⟨hm',rfl,⟨wx.fac.rw.mono (by (iterate 30 try first|assumption|refine aA.lt ?_ (by assumption));first|done|assumption),wx.fac.len⟩⟩,(Sz.mul zx zk).mono (by decide)⟩⟩⟩
theorem qP (h:aA) (tb:Tb h) (S:List (List UInt8)) (hS:S.length≤100000) (hSo:Sok S) (s1 s2:Sl) (a b:Pol) (w1:iS h s1 a) (w2:iS h s2 b) (g1:PG S a) (g2:PG S b):FP F.q67 [s1.val,s2.val] h (bH (tmL a b)):=by
 have pl1:=g1.len
 have pl2:=g2.len
 have pk1:=g1.key
 have pk2:=g2.key
 obtain ⟨l1,e1,r1,t1⟩:=w1
 obtain ⟨l2,e2,r2,t2⟩:=w2
 have hl1:l1.length≤200:=by have:=g1.good.len;rw [← e1,aWb] at this;exact this
 have hl2:l2.length≤200:=by have:=g2.good.len;rw [← e2,aWb] at this;exact this
 have mm1:∀x∈l1,pq x∈a:=fun x hx=>by rw [← e1];exact List.mem_map_of_mem hx
 have mm2:∀x∈l2,pq x∈b:=fun x hx=>by rw [← e2];exact List.mem_map_of_mem hx
 have z1:∀x∈l1,Sz 64 x.q:=fun x hx=>oW (g1.good.fit (pq x) (mm1 x hx))
 have z2:∀x∈l2,Sz 64 x.q:=fun x hx=>oW (g2.good.fit (pq x) (mm2 x hx))
 have hs1:s1.l=l1.length:=by have:=r1.len;rw [aV] at this;omega
 have hs2:s2.l=l2.length:=by have:=r2.len;rw [aV] at this;omega
 have hj:∀x∈l1,∀y∈l2,x.m.length+y.m.length≤1000000∧(∀t∈x.m++y.m,t.2≤1000∧t.1.length≤4000)∧(jn x.m y.m).length≤1099511627776:=fun x hx y hy=>by
  have a1:=pl1 _ (mm1 x hx)
  have a2:=pl2 _ (mm2 y hy)
  dsimp only [pq] at a1 a2
  refine ⟨by omega,fun t ht=>?_,aWd (aLd _ _) (by omega)⟩
  rcases aVx.1 ht with ht|ht
  ·exact ⟨aWd (g1.good.deg _ (mm1 x hx) t ht) (by decide),hSo _ (pk1 _ (mm1 x hx) t ht)⟩
  ·exact ⟨aWd (g2.good.deg _ (mm2 y hy) t ht) (by decide),hSo _ (pk2 _ (mm2 y hy) t ht)⟩
 have hprod:l1.length*l2.length≤40000:=Nat.mul_le_mul hl1 hl2
 obtain ⟨r,hr⟩:∃r,r=bH (tmL a b):=⟨_,rfl⟩
 rw [← hr]
 clear pl1 pl2 pk1 pk2 mm1 mm2 g1 g2 hSo hS
 unfold FP
 refine fPC ok _ D.q67 rfl ?_
 conv=>whnf
 repeat ((first|apply oI.z|apply cI.z);conv=>whnf)
 skip
 refine LpN.of (fun r ρ hx L=>∃(i:Nat) (M:List El) (v:Value),r=l1.length-i∧h.le hx∧i≤l1.length∧rd ρ 12=.int .i64 i∧rd ρ 5=v∧aD Ty.expr_term 4 v M.length (fl M) L∧M.length=i*l2.length∧Hq (M.map pq=tmL ((l1.take i).map pq) b)∧Hq (∀x∈M,TmW hx x∧Sz 130 x.q)) l1.length
  ⟨0,[],_,rfl,aA.lr _,aWe _,rfl,rfl,aD.nil _ _ _,(Nat.zero_mul _).symm,⟨rfl⟩,⟨fun x hx=>by cases hx⟩⟩ ?_
 conv=>whnf
 repeat intro _
 rename_i q2 h2 L2 hI
 obtain ⟨i,M,v,rfl,hle,hi,e12,e5,g,hM,⟨hq⟩,⟨hw⟩⟩:=hI
 conv at e5=>lhs;whnf
 subst e5
 conv at e12=>lhs;whnf
 subst e12
 have r1x:=r1.mono hle
 have tb2:=tb.mono hle
 have hML:M.length≤40000:=by rw [hM];exact aWd (aV8 _ hi) hprod
 by_cases hil:i=l1.length
 ·have hr2:bH (M.map pq)=r:=by rw [hr,hq,hil,aV4,e1]
  obtain ⟨N1,hN1⟩:∃N1,N1=l1.length:=⟨_,rfl⟩
  rw [← hN1] at hil hs1 ⊢
  conv=>whnf
  repeat' first|((first|refine qO tb2 g rfl (by omega) hw hr2 (fun p s h' L' hl e w=>?_) (fun n e=>e)|((first|apply oI.z|apply cI.z))) <;> (conv=>whnf))|(apply aB<;>intro _<;>first|(exfalso;omega)|conv=>whnf)
  exact RN.a (R:=kJ r) ⟨p,s,e,rfl,w⟩
 ·obtain ⟨x,hx⟩:∃t,l1[i]?=some t:=⟨_,aVq (by omega)⟩
  have hxm:=aVu hx
  have wx:=(t1 x hxm).mono hle
  have zx:=z1 x hxm
  have hjx:=hj x hxm
  have hsn:=aZ hx
  have htm:tmL ((l1.take (i+1)).map pq) b=tmL ((l1.take i).map pq) b++b.map fun y=>(jn x.m y.1,x.q*y.2):=by
   rw [hsn,aV3]
   unfold tmL
   rw [List.flatMap_append]
   congr 1
   show (b.map fun y=>(jn x.m y.1,x.q*y.2))++[]=_
   rw [aVy]
  obtain ⟨xn,xa,xd,xf,xm,xq⟩:=x
  obtain rfl:xn=sg xq:=wx.sg
  dsimp only at htm zx hjx
  conv=>whnf
  repeat' first|((first|(show Idx _ _ _ _ _;refine Idx.el r1x i _ (by omega) hx (fun ab ao aw=>?_))|(show LdN _ _ _ _ _;(refine LdN.el4 aw (by first|assumption|exact aA.lr _) ?_))|((first|apply oI.z|apply cI.z))|intro (_:Nat)|refine Sto.l 0 rfl rfl rfl ?_) <;> (conv=>whnf))|(apply aB<;>intro _<;>first|(exfalso;omega)|conv=>whnf)
  refine LpN.keep0 fun h3 hl3 hb3=>?_
  have awx:aLg h3 _ 0 ⟨sg xq,xa,xd,xf,xm,xq⟩:=fun h' L k v hl hk hv=>Has.imm (hl _ _ hb3) (by rw [aWc];show (⟨sg xq,xa,xd,xf,xm,xq⟩:El).cells.toArray[k]?=_;rw [List.getElem?_toArray];exact hv)
  replace tb2:=tb2.mono hl3
  replace wx:=wx.mono hl3
  have r2x:=r2.mono (aA.lt hle hl3)
  have hle3:=aA.lt hle hl3
  refine LpN.of (fun r ρ hx L=>∃(k:Nat) (M2:List El) (v:Value),r=l2.length-k∧h3.le hx∧k≤l2.length∧rd ρ 18=.int .i64 k∧rd ρ 5=v∧aD Ty.expr_term 4 v (M.length+k) (fl (M++M2)) L∧M2.length=k∧Hq (M2.map pq=((l2.take k).map pq).map fun y=>(jn xm y.1,xq*y.2))∧Hq (∀x∈M++M2,TmW hx x∧Sz 130 x.q)) l2.length
   ⟨0,[],_,rfl,aA.lr _,aWe _,rfl,rfl,by rw [aVy];exact g,rfl,⟨rfl⟩,⟨fun x hx=>by rw [aVy] at hx;exact ⟨(hw x hx).1.mono hl3,(hw x hx).2⟩⟩⟩ ?_
  clear g hw hb3
  conv=>whnf
  repeat intro _
  rename_i q4 h4 L4 hI
  obtain ⟨k,M2,v,rfl,hle4,hk,e18,e5,g,hM2,⟨hq2⟩,⟨hw⟩⟩:=hI
  conv at e5=>lhs;whnf
  subst e5
  conv at e18=>lhs;whnf
  subst e18
  have tb4:=tb2.mono hle4
  have r2y:=r2x.mono hle4
  by_cases hkl:k=l2.length
  ·have hq3:(M++M2).map pq=tmL ((l1.take (i+1)).map pq) b:=by rw [htm,aV3,hq,hq2,hkl,aV4,e2]
   have hM3:(M++M2).length=(i+1)*l2.length:=by rw [aVo,hM,hM2,hkl,Nat.add_mul,Nat.one_mul]
   have g3:=g
   rw [← hM2,← aVo] at g3
   obtain ⟨N2,hN2⟩:∃N2,N2=l2.length:=⟨_,rfl⟩
   obtain ⟨N1,hN1⟩:∃N1,N1=l1.length:=⟨_,rfl⟩
   rw [← hN2] at hkl hs2 hM3 ⊢
   rw [← hN1] at hi hil ⊢
   conv=>whnf
   repeat' first|((first|((first|apply oI.z|apply cI.z))|refine WN.i64 (by omega) (by omega) ?_) <;> (conv=>whnf))|(apply aB<;>intro _<;>first|(exfalso;omega)|conv=>whnf)
   exact ⟨rfl,N1-(i+1),by omega,i+1,M++M2,_,rfl,(by (iterate 30 try first|assumption|refine aA.lt ?_ (by assumption));first|done|assumption),by omega,vi (by omega),rfl,g3,hM3,⟨hq3⟩,⟨hw⟩⟩
  ·obtain ⟨y,hy⟩:∃t,l2[k]?=some t:=⟨_,aVq (by omega)⟩
   have hym:=aVu hy
   have wy:=(t2 y hym).mono (aA.lt hle3 hle4)
   have zy:=z2 y hym
   have hjy:=hjx y hym
   have hsn2:=aZ hy
   have hM2L:M.length+k≤40200:=by omega
   obtain ⟨yn,ya,yd,yf,ym,yq⟩:=y
   obtain rfl:yn=sg yq:=wy.sg
   dsimp only at hjy zy
   have c3:=fun h tb w1 w2=>aEa h tb xa xd ya yd xq yq w1 w2 (zx.mono (by decide)) (zy.mono (by decide))
   have c4:=fun h w1 w2=>aHq h xf yf xm ym w1 w2 hjy.1 hjy.2.1
   have wx4:=wx.mono hle4
   have wxq:=wx4.fr
   have wyq:=wy.fr
   have wxf:=wx4.fac.rw
   have wyf:=wy.fac.rw
   obtain ⟨J,hJ⟩:∃J,J=jn xm ym:=⟨_,rfl⟩
   simp only [← hJ] at c4
   conv=>whnf
   repeat' first|((first|(show Idx _ _ _ _ _;refine Idx.el r2y k _ (by omega) hy (fun ab ao aw=>?_))|(show LdN _ _ _ _ _;first|(refine LdN.el4 aw (by first|assumption|exact aA.lr _) ?_)|refine LdN.elq awx (by assumption) ?_|refine LdN.oA 0 rfl rfl ?_)|(show DrN _ _ _ _ _ _;refine DrN.own [_] (List.Sublist.cons_cons _ (List.nil_sublist _)) (by decide +kernel) ?_)|refine ⟨fun _=>⟨aH.o (aA.lr _),List.singleton_sublist.2 (hA _ (aVz _ (aVw)))⟩,?_⟩|(refine ⟨fun _=>⟨aH.o (by first|exact aA.lr _|assumption|exact aA.lt (by assumption) (by assumption)),by repeat first|exact List.nil_sublist _|apply List.Sublist.cons_cons|refine List.Sublist.trans ?_ (List.sublist_append_right _ _)|apply List.Sublist.cons⟩,?_⟩)|((first|apply oI.z|apply cI.z))|intro (_:Nat)|(show Ld _ _ _ _;first|refine Ld.elf awx (by assumption) ?_|refine Ld.o 0 rfl rfl ?_)|(show CN _ _ _ _ _ _;first|(refine CN.f rfl (Fn0.wP (c3 _ (by assumption) (wxq.mono (by first|assumption|exact aA.lr _)) (wyq.mono (by first|assumption|exact aA.lr _)))) (fun v h' hl hr'=>?_);obtain ⟨m1,m2,rfl,hm'⟩:=hr')|(refine CN.f rfl (Fn0.wP (c4 _ (wxf.mono (by assumption)) (wyf.mono (by assumption)))) (fun v h' hl hr'=>?_);obtain ⟨sj,rfl,hj'⟩:=hr'))|(show App _ _ _ _ _ _ _ _ _;refine App.growM (A:=[_,_]) (Fx:=L4) (size:=4) (bytes:=80) (z:=[.bool false,.slice none 0 0,.slice none 0 0,.slice none 0 0]) rfl rfl g ⟨_,0,none⟩ 1 1 [_,_,_,_] rfl (Has.four _) rfl (by decide) (by omega) (by omega) (by decide) (fun v' F' g' hA=>?_))|refine WN.i64 (by omega) (by omega) ?_|refine Sto.l 0 rfl rfl rfl ?_) <;> (conv=>whnf))|(apply aB<;>intro _<;>first|(exfalso;omega)|conv=>whnf)
   ·have hMx:(M2++[(⟨sg (xq*yq),m1,m2,sj,J,xq*yq⟩:El)]).map pq=((l2.take (k+1)).map pq).map fun y=>(jn xm y.1,xq*y.2):=by
     rw [aV3,hq2,hsn2,aV3,aV3,hJ];rfl
    exact ⟨rfl,l2.length-(k+1),by omega,k+1,M2++[⟨sg (xq*yq),m1,m2,sj,J,xq*yq⟩],_,rfl,(by (iterate 30 try first|assumption|refine aA.lt ?_ (by assumption));first|done|assumption),by omega,vi (by omega),rfl,by rw [← aVt];exact aD.el g',by rw [aVo,hM2];rfl,⟨hMx⟩,⟨fun x hx=>by
      rw [← aVt] at hx
      rcases aVx.1 hx with hx|hx
      ·exact ⟨(hw x hx).1.mono (by (iterate 30 try first|assumption|refine aA.lt ?_ (by assumption));first|done|assumption),(hw x hx).2⟩
      ·rw [aV2] at hx;subst hx;exact ⟨⟨hm'.mono (by assumption),rfl,⟨hj'.mono (by first|assumption|exact aA.lr _),by rw [hJ];exact hjy.2.2⟩⟩,(Sz.mul zx zy).mono (by decide)⟩⟩⟩
end Go.Proofs.Y
/- The document adds like terms up, and checks its limits. -/
namespace Go.Vc
open Go Go.Dig
def aLx (G:List (Mon × Rat)) (m:Mon):Prop:=∀u,G.getLast?=some u→u.1≠m
theorem aRa {G:List (Mon × Rat)} {t:Mon × Rat} (h:aLx G t.1):grS G t=G++[t]:=by
 rcases List.eq_nil_or_concat G with rfl|⟨o,u,rfl⟩
 ·rfl
 ·rw [List.concat_eq_append] at *
  rw [zL,if_neg (h u (by rw [List.getLast?_concat]))]
theorem aB1 (G:List (Mon × Rat)) (m:Mon) (q:Rat):(G++[(m,q)]).filter (fun t=>!decide (t.2=0))=G.filter (fun t=>!decide (t.2=0))++(if q=0 then [] else [(m,q)]):=by
 rw [List.filter_append]
 congr 1
 by_cases h:q=0
 ·rw [if_pos h];simp [h]
 ·rw [if_neg h];simp [h]
theorem aLy {G:List (Mon × Rat)} {m m':Mon} {q:Rat} (h:m≠m'):aLx (G++[(m,q)]) m':=fun u hu=>by
 rw [List.getLast?_concat] at hu
 cases hu
 exact h
end Go.Vc
namespace Go.Proofs.Y
open Go Go.Vc Go.Dig
theorem wX {l:List El} {i:Nat} {x:El} (h:l[i]?=some x):((l.take (i+1)).map pq).foldl grS []=grS (((l.take i).map pq).foldl grS []) (pq x):=by
 rw [aZ h,aV3,List.foldl_append];rfl
theorem QmW.mono {h h':aA} {x:El} (w:QmW h x) (hl:h.le h'):QmW h' x:=⟨w.q.mono hl,w.sg,w.fac.mono hl⟩
theorem Sr.addS {k l:Nat} {q r:Rat} (a:Sr k q) (b:Sr l r):Sr (k+l+1) (q+r):=by
 have h:=aCs q r
 have p1:=bV tlb (nu q) r.den
 have p2:=bV tlb (nu r) q.den
 have p3:=bV tlb q.den r.den
 have p4:=tB tlb (nu q*r.den) (nu r*q.den)
 have a1:=a.num
 have a2:=a.den
 have b1:=b.num
 have b2:=b.den
 exact ⟨aWd (cO tlb h.1) (by omega),aWd (cO tlb h.2) (by omega)⟩
theorem Sr.mulS {k l:Nat} {q r:Rat} (a:Sr k q) (b:Sr l r):Sr (k+l) (q*r):=by
 have h:=aIi q r
 have p1:=bV tlb (nu q) (nu r)
 have p3:=bV tlb q.den r.den
 have a1:=a.num
 have a2:=a.den
 have b1:=b.num
 have b2:=b.den
 exact ⟨aWd (cO tlb h.1) (by omega),aWd (cO tlb h.2) (by omega)⟩
attribute [local irreducible] Vc.Fn FnP
structure QmS (h:aA) (x:El):Prop where
 m:QmW h x
 z:Sr 10600000 x.q
instance:UpE QmS:=⟨fun hl w=>⟨UpE.up hl w.m,w.z⟩⟩
abbrev aVk (h:aA) (s:Sl) (p:Pol):Prop:=eJ QmW h s p
theorem uQ (h:aA) (s:Sl) (l:List El) (w:Rw h s 4 (fl l)) (hb:l.length≤40400) (fw:∀x∈l,QmW h x∧Sr 260 x.q):
  Fn0 T F.q78 [s.val] h fun v h'=>∃s',v=Sl.val s'∧eJ QmS h' s' (bU (l.map pq)):=by
 have c1:=aDs l.length h s l (aWf _) (by omega) w fun x hx=>(fw x hx).1.fac
 refine f0C ok D.q78 rfl ?_
 conv=>whnf
 repeat' first|((first|(show CN _ _ _ _ _ _;(refine CN.f rfl c1 (fun v h' hl hr=>?_);obtain ⟨s2,l',rfl,w',p1,o1⟩:=hr))|((first|apply oI.z|apply cI.z))) <;> (conv=>whnf))
 have hr1:(((l'.map pq).foldl grS []).filter fun t=>!decide (t.2=0))=bU (l.map pq):=aE5 (p1.map pq) (aLj o1)
 have fw':∀x∈l',QmW h' x∧Sr 260 x.q:=fun x hx=>⟨UpE.up hl (fw x (p1.mem_iff.1 hx)).1,(fw x (p1.mem_iff.1 hx)).2⟩
 have hN:=p1.length_eq
 have hls:s2.l=l'.length:=by have:=w'.len;rw [aV] at this;omega
 clear c1 o1 p1 fw w hl
 refine LpN.of (fun r ρ hx L=>∃(i:Nat) (G:Pol) (out:List El) (v:Value),r=l'.length-i∧h'.le hx∧i≤l'.length∧rd ρ 4=.int .i64 i∧rd ρ 3=v∧aD Ty.ref04_term 4 v out.length (fl out) L∧out.length≤i∧Hq (G=((l'.take i).map pq).foldl grS [])∧Hq (out.map pq=G.filter fun t=>!decide (t.2=0))∧Hq (∀x,l'[i]?=some x→aLx G x.m)∧Hq (∀x∈out,QmS hx x)) l'.length
  ⟨0,[],[],_,rfl,aA.lr _,aWe _,rfl,rfl,aD.nil _ _ _,aWf _,⟨rfl⟩,⟨rfl⟩,⟨fun x hx u hu=>by cases hu⟩,⟨fun x hx=>by cases hx⟩⟩ ?_
 conv=>whnf
 repeat intro _
 rename_i r2 h2 L2 hI
 obtain ⟨i,G,out,v,rfl,hle,hi,e4,e3,g,ho,⟨hG⟩,⟨hout⟩,⟨hoff⟩,⟨hw⟩⟩:=hI
 conv at e3=>lhs;whnf
 subst e3
 conv at e4=>lhs;whnf
 subst e4
 have w2:=w'.mono hle
 by_cases hiN:i=l'.length
 ·have hfin:out.map pq=bU (l.map pq):=by rw [hout,hG,← hr1,hiN,aV4]
  conv=>whnf
  repeat' first|((first|((first|apply oI.z|apply cI.z))) <;> (conv=>whnf))|(apply aB<;>intro _<;>first|(exfalso;omega)|conv=>whnf)
  refine RN.growE (K:=QmS) g hw fun h' s hl e w=>⟨s,e,by rw [← hfin];exact w⟩
 ·obtain ⟨x,hx⟩:∃t,l'[i]?=some t:=⟨_,aVq (by omega)⟩
  have hxw:=fw' x (aVu hx)
  have hG1:((l'.take (i+1)).map pq).foldl grS []=G++[(x.m,x.q)]:=by rw [wX hx,← hG,aRa (hoff x hx)];rfl
  have hxq:=hxw.1.mono hle
  obtain ⟨xn,xa,xd,xf,xm,xq⟩:=x
  obtain rfl:xn=sg xq:=hxw.1.sg
  dsimp only at hG1
  conv=>whnf
  repeat' first|((first|(show Idx _ _ _ _ _;refine Idx.el w2 i _ (by omega) hx (fun ab ao aw=>?_))|(show LdN _ _ _ _ _;(refine LdN.el4 aw (by first|assumption|exact aA.lr _) ?_))|((first|apply oI.z|apply cI.z))|intro (_:Nat)|refine WN.i64 (by omega) (by omega) ?_|refine Sto.l 0 rfl rfl rfl ?_) <;> (conv=>whnf))|(apply aB<;>intro _<;>first|(exfalso;omega)|conv=>whnf)
  rename_i bt
  refine LpN.of (fun r ρ hx L=>∃(j:Nat) (q:Rat) (a d:Sl),r=l'.length-j∧h2.le hx∧i<j∧j≤l'.length∧rd ρ 4=.int .i64 j∧L=(bt,.cells [.bool (sg q),a.val,d.val,xf.val].toArray 66 (0,0))::L2∧IsQ hx a d q∧Sr (262*j) q∧Hq (((l'.take j).map pq).foldl grS []=G++[(xm,q)])) (l'.length-(i+1))
   ⟨i+1,xq,xa,xd,rfl,aA.lr _,by omega,by omega,vi (by omega),rfl,hxq.q,hxw.2.mono (by omega),⟨hG1⟩⟩ ?_
  conv=>whnf
  repeat intro _
  rename_i q3 h3 L3 hI3
  obtain ⟨j,q,qa,qd,rfl,hle3,hij,hj,e4,rfl,wq,zq,⟨hG2⟩⟩:=hI3
  conv at e4=>lhs;whnf
  subst e4
  have w3:=w2.mono hle3
  have c6:=fun h w=>aEf h qa qd q w (zq.mono (by omega))
  obtain ⟨z,hz⟩:∃z,z=fI q:=⟨_,rfl⟩
  rw [← hz] at c6
  have hfil:=aB1 G xm q
  have xfw:=hxq.fac.rw.mono hle3
  have xfl:=hxq.fac.len
  by_cases hjN:j=l'.length
  ·have hoff2:∀x,l'[j]?=some x→aLx (G++[(xm,q)]) x.m:=fun x hx=>by rw [hjN,List.getElem?_eq_none (aWf _)] at hx;cases hx
   by_cases hq0:q=0
   ·have hz0:z=0:=hz.trans (gG.2 (dH.2 hq0))
    rw [if_pos hq0,aVy] at hfil
    conv=>whnf
    repeat' first|((first|(show LdN _ _ _ _ _;refine LdN.oA 0 rfl rfl ?_)|(show CN _ _ _ _ _ _;(refine CN.quiet rfl (c6 _ (wq.mono (by first|assumption|exact aA.lr _))) ?_))|((first|apply oI.z|apply cI.z))|refine DrN.run (by decide +kernel) ?_) <;> (conv=>whnf))|(show cnd _ _ _;first|(apply aB<;>intro _<;>first|(exfalso;omega)|conv=>whnf)|(apply aE<;>intro _<;>first|(exfalso;omega)|conv=>whnf)|(refine aI ?_))
    exact ⟨rfl,l'.length-j,by omega,j,G++[(xm,q)],out,_,rfl,(by (iterate 30 try first|assumption|refine aA.lt ?_ (by assumption));first|done|assumption),by omega,rfl,rfl,g.cons _,by omega,⟨hG2.symm⟩,⟨by rw [hfil,hout]⟩,⟨hoff2⟩,⟨fun x hx=>UpE.up (by assumption) (hw x hx)⟩⟩
   ·have hz0:z≠0:=fun e=>hq0 (dH.1 (gG.1 (hz.symm.trans e)))
    rw [if_neg hq0] at hfil
    conv=>whnf
    repeat' first|((first|(show LdN _ _ _ _ _;refine LdN.oA 0 rfl rfl ?_)|(show CN _ _ _ _ _ _;(refine CN.quiet rfl (c6 _ (wq.mono (by first|assumption|exact aA.lr _))) ?_))|((first|apply oI.z|apply cI.z))|intro (_:Nat)|refine DrN.run (by decide +kernel) ?_) <;> (conv=>whnf))|(show cnd _ _ _;first|(apply aB<;>intro _<;>first|(exfalso;omega)|conv=>whnf)|(apply aE<;>intro _<;>first|(exfalso;omega)|conv=>whnf)|(refine aI ?_))
    refine App.growM (A:=[_,_]) (Fx:=L2) (size:=4) (bytes:=80) (z:=[.bool false,.slice none 0 0,.slice none 0 0,.slice none 0 0]) rfl rfl g ⟨_,0,none⟩ 1 1 [_,_,_,_] rfl (Has.four _) rfl (by decide) (by omega) (by omega) (by decide) (fun v' F' g' hA=>?_);conv=>whnf
    exact ⟨rfl,l'.length-j,by omega,j,G++[(xm,q)],out++[⟨sg q,qa,qd,xf,xm,q⟩],v',rfl,(by (iterate 30 try first|assumption|refine aA.lt ?_ (by assumption));first|done|assumption),by omega,rfl,rfl,by rw [aVo];exact aD.el (x:=⟨sg q,qa,qd,xf,xm,q⟩) g',by rw [aVo];show _+1≤j;omega,⟨hG2.symm⟩,⟨by rw [hfil,aV3,hout];rfl⟩,⟨hoff2⟩,⟨fun x hx=>by
      rcases aVx.1 hx with hx|hx
      ·exact UpE.up (by assumption) (hw x hx)
      ·rw [aV2] at hx;subst hx;exact ⟨⟨wq.mono (by first|assumption|exact aA.lr _),rfl,⟨hxq.fac.rw.mono (by assumption),hxq.fac.len⟩⟩,zq.mono (by omega)⟩⟩⟩
  ·obtain ⟨y,hy⟩:∃t,l'[j]?=some t:=⟨_,aVq (by omega)⟩
   have hyw:=fw' y (aVu hy)
   have hyq:=(hyw.1.mono hle).mono hle3
   have hsn:=wX hy
   rw [hG2,zL] at hsn
   obtain ⟨yn,ya,yd,yf,ym,yq⟩:=y
   obtain rfl:yn=sg yq:=hyw.1.sg
   dsimp only [pq] at hsn
   have yfl:=hyw.1.fac.len
   have yfw:=hyq.fac.rw
   have c2:=fun h w w'=>rI h yf xf ym xm w w' yfl xfl
   obtain ⟨A,hA⟩:∃A,A=fO ym xm:=⟨_,rfl⟩
   rw [← hA] at c2
   by_cases hyx:ym=xm
   ·have hA0:A=0:=hA.trans (iB.2 hyx)
    replace hsn:=hsn.trans (if_pos hyx.symm)
    have hyw2:=hyw.2
    have c7:=fun h w w'=>aIo h qa qd ya yd q yq w w' (zq.mono (by omega)) (hyw2.mono (by decide))
    have yq':=hyq.q
    conv=>whnf
    repeat' first|((first|(show Idx _ _ _ _ _;refine Idx.el w3 j _ (by omega) hy (fun ab ao aw=>?_))|(show LdN _ _ _ _ _;first|(refine LdN.elq aw (by first|assumption|exact aA.lr _) ?_)|refine LdN.oA 0 rfl rfl ?_)|(show Ld _ _ _ _;first|(refine Ld.elf aw (by first|assumption|exact aA.lr _) ?_)|refine Ld.o 0 rfl rfl ?_)|(show CN _ _ _ _ _ _;first|(refine CN.quiet rfl (c2 _ (yfw.mono (by first|assumption|exact aA.lr _)) (xfw.mono (by first|assumption|exact aA.lr _))) ?_)|(refine CN.f rfl (c7 _ (wq.mono (by first|assumption|exact aA.lr _)) (yq'.mono (by first|assumption|exact aA.lr _))) (fun v h' hl hr=>?_);obtain ⟨m1,m2,rfl,hm⟩:=hr))|((first|apply oI.z|apply cI.z))|refine ⟨fun _=>aH.o (aA.lr _),?_⟩|refine ⟨fun _=>aH.o (by assumption),?_⟩|refine ⟨fun hst=>(by cases (show true=false from hst)),?_⟩|refine WN.i64 (by omega) (by omega) ?_|refine Sto.l 0 rfl rfl rfl ?_|refine DrN.run (by decide +kernel) ?_) <;> (conv=>whnf))|(show cnd _ _ _;first|(apply aB<;>intro _<;>first|(exfalso;omega)|conv=>whnf)|(apply aE<;>intro _<;>first|(exfalso;omega)|conv=>whnf))
    exact ⟨rfl,l'.length-(j+1),by omega,j+1,q+yq,m1,m2,rfl,(by (iterate 30 try first|assumption|refine aA.lt ?_ (by assumption));first|done|assumption),by omega,by omega,vi (by omega),rfl,hm.mono (by first|assumption|exact aA.lr _),(zq.addS hyw2).mono (by omega),⟨hsn⟩⟩
   ·have hA0:A≠0:=fun e=>hyx (iB.1 (hA.symm.trans e))
    have hoff2:∀x,l'[j]?=some x→aLx (G++[(xm,q)]) x.m:=fun x hx=>by rw [hy] at hx;cases hx;exact aLy (fun e=>hyx e.symm)
    by_cases hq0:q=0
    ·have hz0:z=0:=hz.trans (gG.2 (dH.2 hq0))
     rw [if_pos hq0,aVy] at hfil
     conv=>whnf
     repeat' first|((first|(show Idx _ _ _ _ _;refine Idx.el w3 j _ (by omega) hy (fun ab ao aw=>?_))|(show Ld _ _ _ _;first|(refine Ld.elf aw (by first|assumption|exact aA.lr _) ?_)|refine Ld.o 0 rfl rfl ?_)|(show CN _ _ _ _ _ _;first|(refine CN.quiet rfl (c2 _ (yfw.mono (by first|assumption|exact aA.lr _)) (xfw.mono (by first|assumption|exact aA.lr _))) ?_)|(refine CN.quiet rfl (c6 _ (wq.mono (by first|assumption|exact aA.lr _))) ?_))|(show LdN _ _ _ _ _;refine LdN.oA 0 rfl rfl ?_)|((first|apply oI.z|apply cI.z))|refine ⟨fun _=>aH.o (aA.lr _),?_⟩|refine DrN.run (by decide +kernel) ?_) <;> (conv=>whnf))|(show cnd _ _ _;first|(apply aB<;>intro _<;>first|(exfalso;omega)|conv=>whnf)|(apply aE<;>intro _<;>first|(exfalso;omega)|conv=>whnf)|(refine aI ?_))
     exact ⟨rfl,l'.length-j,by omega,j,G++[(xm,q)],out,_,rfl,(by (iterate 30 try first|assumption|refine aA.lt ?_ (by assumption));first|done|assumption),by omega,rfl,rfl,g.cons _,by omega,⟨hG2.symm⟩,⟨by rw [hfil,hout]⟩,⟨hoff2⟩,⟨fun x hx=>UpE.up (by assumption) (hw x hx)⟩⟩
    ·have hz0:z≠0:=fun e=>hq0 (dH.1 (gG.1 (hz.symm.trans e)))
     rw [if_neg hq0] at hfil
     conv=>whnf
     repeat' first|((first|(show Idx _ _ _ _ _;refine Idx.el w3 j _ (by omega) hy (fun ab ao aw=>?_))|(show Ld _ _ _ _;first|(refine Ld.elf aw (by first|assumption|exact aA.lr _) ?_)|refine Ld.o 0 rfl rfl ?_)|(show CN _ _ _ _ _ _;first|(refine CN.quiet rfl (c2 _ (yfw.mono (by first|assumption|exact aA.lr _)) (xfw.mono (by first|assumption|exact aA.lr _))) ?_)|(refine CN.quiet rfl (c6 _ (wq.mono (by first|assumption|exact aA.lr _))) ?_))|(show LdN _ _ _ _ _;refine LdN.oA 0 rfl rfl ?_)|((first|apply oI.z|apply cI.z))|refine ⟨fun _=>aH.o (aA.lr _),?_⟩|intro (_:Nat)|refine DrN.run (by decide +kernel) ?_) <;> (conv=>whnf))|(show cnd _ _ _;first|(apply aB<;>intro _<;>first|(exfalso;omega)|conv=>whnf)|(apply aE<;>intro _<;>first|(exfalso;omega)|conv=>whnf)|(refine aI ?_))
     refine App.growM (A:=[_,_]) (Fx:=L2) (size:=4) (bytes:=80) (z:=[.bool false,.slice none 0 0,.slice none 0 0,.slice none 0 0]) rfl rfl g ⟨_,0,none⟩ 1 1 [_,_,_,_] rfl (Has.four _) rfl (by decide) (by omega) (by omega) (by decide) (fun v' F' g' hA=>?_);conv=>whnf
     exact ⟨rfl,l'.length-j,by omega,j,G++[(xm,q)],out++[⟨sg q,qa,qd,xf,xm,q⟩],v',rfl,(by (iterate 30 try first|assumption|refine aA.lt ?_ (by assumption));first|done|assumption),by omega,rfl,rfl,by rw [aVo];exact aD.el (x:=⟨sg q,qa,qd,xf,xm,q⟩) g',by rw [aVo];show _+1≤j;omega,⟨hG2.symm⟩,⟨by rw [hfil,aV3,hout];rfl⟩,⟨hoff2⟩,⟨fun x hx=>by
       rcases aVx.1 hx with hx|hx
       ·exact UpE.up (by assumption) (hw x hx)
       ·rw [aV2] at hx;subst hx;exact ⟨⟨wq.mono (by first|assumption|exact aA.lr _),rfl,⟨hxq.fac.rw.mono (by assumption),hxq.fac.len⟩⟩,zq.mono (by omega)⟩⟩⟩
end Go.Proofs.Y
/- Products of factors, as the document forms them. -/
namespace Go.Vc
open Go Go.Dig
theorem CN.growR {T:Tab} {e:TypeId} {size:Nat} {v:Value} {n:Nat} {xs:List Value} {f:FuncId} {h:aA} {L:Vc.Own} {k:Value→aA→Vc.Own→Prop} (hs:0<size) (g:aD e size v n xs L) (hf:T.fn f=true)
  (hk:∀h' (s:Sl) L',h.le h'→v=s.val→Rw h' s size xs→CN T f [s.val] h' L' k):CN T f [v] h L k:=by
 obtain ⟨g1,⟨rfl,rfl⟩|⟨i,b,cap,zs,rfl,h2,h3,h4⟩⟩:=g
 ·obtain rfl:xs=[]:=by simpa using g1
  exact hk h ⟨none,0,0⟩ L (aA.lr _) rfl ⟨by simp,aWf _,fun x=>(x rfl).elim⟩
 ·refine CN.keep i h2 hf fun hle=>hk _ ⟨some ⟨b,0,none⟩,n,cap⟩ _ hle rfl ⟨g1.symm,h3,fun _=>⟨b,0,(xs++zs).toArray,e,(0,0),rfl,by simp [aA.put],fun j hj=>by
    rw [aWc,List.getElem?_toArray,aV0 hj]⟩⟩
theorem lK {a:Mon} {i:Nat} {t:Fac} (h:a[i]?=some t):a.drop i=t::a.drop (i+1):=by
 obtain ⟨h1,h2⟩:=aVr.1 h
 rw [List.drop_eq_getElem_cons h1,h2]
theorem Idx.facM {h:aA} {s:Sl} {m:Mon} (w:Rw h s 2 (fcs m)) {i:Int} {k:Addr→Prop} (j:Nat) (t:Fac) (hi:i=j) (ht:m[j]?=some t)
  (hk:∀b off,(∀h' L,h.le h'→Has h' L ⟨b,off,none⟩ (.string ⟨t.1.toArray⟩))→(∀h' L,h.le h'→Has h' L ⟨b,off+1,none⟩ (.int .i64 (t.2:Nat)))→k ⟨b,off,none⟩):Idx s.a i s.l 2 k:=by
 have hj:=(aVr.1 ht).1
 have hl:=bT m
 have hne:fcs m≠[]:=fun e=>by rw [e] at hl;simp at hl;omega
 obtain ⟨b,off,c,T,fz,h1,h2,h3⟩:=w.mem hne
 have hlen:=w.len
 have get:∀n,n<2→∀h' L,h.le h'→Has h' L ⟨b,off+j*2+n,none⟩ ((fcv t).getD n undef):=fun n hn h' L hle=>by
  refine Has.imm (hle _ _ h2) ?_
  rw [Nat.add_assoc,h3 _ (by omega),zB ht n hn]
  match n,hn with
  | 0,_=>rfl
  | 1,_=>rfl
 exact Idx.of j h1 hi (by omega) (hk _ _ (get 0 (by decide)) (get 1 (by decide)))
theorem aTi (l:Mon):cnM l=cnL l l:=rfl
end Go.Vc
namespace Go.Proofs.Y
open Go Go.Vc Go.Dig
theorem aRb (h:aA) (x:List UInt8):Fn0 T F.q115 [.string ⟨x.toArray⟩] h fun v h'=>v=.bool (dec (nmA x)):=by
 rw [nN]
 exact rR h _ (aLq x)
attribute [local irreducible] Vc.Fn FnP
theorem vH (h:aA) (s:Sl) (l:Mon) (w:Rw h s 2 (fcs l)) (hs:gY l) (hl:l.length≤1000000) (he:∀t∈l,t.2≤100000∧t.1.length≤100000):
  Fn0 T F.q132 [s.val] h fun v h'=>∃s':Sl,v=s'.val∧Rw h' s' 2 (fcs (cnM l)):=by
 have hls:s.l=l.length:=by have:=w.len;rw [bT] at this;omega
 refine f0C ok D.q132 rfl ?_
 conv=>whnf
 repeat ((first|apply oI.z|apply cI.z);conv=>whnf)
 skip
 refine LpN.of (fun r ρ hx L=>∃(i:Nat) (v:Value) (out:Mon),r=l.length-i∧h.le hx∧i≤l.length∧rd ρ 4=.int .i64 i∧rd ρ 3=v∧aD Ty.api_Factor 2 v out.length (fcs out) L∧out.length≤i∧Hq (out=cnL l (l.take i))) l.length
  ⟨0,_,[],rfl,aA.lr _,aWe _,rfl,rfl,aD.nil _ _ _,aWf _,⟨rfl⟩⟩ ?_
 conv=>whnf
 repeat intro _
 rename_i r h1 L1 hI
 obtain ⟨i,v,out,rfl,hle,hi,e4,e3,g,ho,⟨hq⟩⟩:=hI
 conv at e3=>lhs;whnf
 subst e3
 conv at e4=>lhs;whnf
 subst e4
 have w1:=w.mono hle
 by_cases hil:i=l.length
 ·rw [hil,aV4] at hq
  conv=>whnf
  repeat' first|((first|((first|apply oI.z|apply cI.z))) <;> (conv=>whnf))|(apply aB<;>intro _<;>first|(exfalso;omega)|conv=>whnf)
  refine RN.growR (size:=2) (by decide) g fun h' s hl e w=>⟨s,e,?_⟩
  rw [aTi,← hq];exact w
 ·obtain ⟨t,ht⟩:∃t,l[i]?=some t:=⟨_,aVq (by omega)⟩
  have hte:=he t (aVu ht)
  have hsn:=aZ ht
  have hcn:=uK l (l.take i) t
  rw [← hsn,← hq] at hcn
  obtain ⟨x,e⟩:=t
  dsimp only at hte
  conv=>whnf
  repeat' first|((first|(apply aX.go)|(show Idx _ _ _ _ _;refine Idx.fac w1 i _ (by omega) ht (fun bk off k0 k1=>?_))|(show Ld _ _ _ _;refine Ld.of (k1 _) ?_)|((first|apply oI.z|apply cI.z))) <;> (conv=>whnf))|(apply aB<;>intro _<;>first|(exfalso;omega)|conv=>whnf)
  refine LpN.of (fun r ρ hx L=>∃(k m:Nat),r=l.length-k∧h1.le hx∧L=L1∧k≤l.length∧rd ρ 6=.int .i64 k∧rd ρ 5=.int .i64 m∧m≤e∧Hq (m=e-min e (rv (l.take k) x))) l.length
   ⟨0,e,rfl,aA.lr _,rfl,aWe _,rfl,rfl,aWf _,⟨by
     have:rv (l.take 0) x=0:=by rw [List.take_zero];unfold rv;cases inv x <;> rfl
     rw [this];omega⟩⟩ ?_
  conv=>whnf
  repeat intro _
  rename_i r2 h2 L2 hI
  obtain ⟨k,m,rfl,hle2,rfl,hk,e6,e5,hme,⟨hm⟩⟩:=hI
  conv at e5=>lhs;whnf
  subst e5
  conv at e6=>lhs;whnf
  subst e6
  have w2:=w1.mono hle2
  by_cases hkl:k=l.length
  ·rw [hkl,aV4] at hm
   have hm':m=cnF l (x,e):=hm
   rw [← hm'] at hcn
   conv=>whnf
   repeat' first|((first|(show Idx _ _ _ _ _;refine Idx.fac w2 i _ (by omega) ht (fun bk off k0 k1=>?_))|(show Ld _ _ _ _;refine Ld.of (k0 _) ?_)|(show App _ _ _ _ _ _ _ _ _;refine App.growK0 (A:=[_]) (F:=L2) (size:=2) (bytes:=24) (z:=[.string ByteArray.empty,.int .i64 0]) rfl rfl g ⟨_,0,none⟩ 1 1 [_,_] rfl (Has.twoC _) rfl (by decide) (by omega) (by omega) (by decide) (fun v' F' g'=>?_))|((first|apply oI.z|apply cI.z))|intro (_:Nat)|refine WN.i64 (by omega) (by omega) ?_) <;> (conv=>whnf))|(apply aB<;>intro _<;>first|(exfalso;omega)|conv=>whnf)
   ·rw [if_neg (by omega)] at hcn
    exact ⟨rfl,l.length-(i+1),by omega,i+1,_,out++[(x,m)],rfl,(by (iterate 30 try first|assumption|refine aA.lt ?_ (by assumption));first|done|assumption),by omega,vi (by omega),rfl,by rw [aVo];exact (aD.fac m g' rfl).cons _,by rw [aVo,List.length_singleton];omega,⟨by rw [hcn]⟩⟩
   ·rw [if_pos (by omega),aVy] at hcn
    exact ⟨rfl,l.length-(i+1),by omega,i+1,_,out,rfl,(by (iterate 30 try first|assumption|refine aA.lt ?_ (by assumption));first|done|assumption),by omega,vi (by omega),rfl,g,by omega,⟨by rw [hcn]⟩⟩
  ·obtain ⟨u,hu⟩:∃t,l[k]?=some t:=⟨_,aVq (by omega)⟩
   have hue:=he u (aVu hu)
   have ht1:=aOb hs (s:=x) hu
   have ho1:=aOc hs (s:=x) hu
   have hiv:=@aN9 x u.1
   obtain ⟨y,f⟩:=u
   dsimp only at hue ht1 ho1 hiv
   have cY:inv x=some y→m-min e f=e-min e (rv (l.take (k+1)) x):=fun hh=>by
    rw [ht1,if_pos hh,ho1 hh] 
    rw [ho1 hh] at hm
    omega
   have cN:inv x≠some y→m=e-min e (rv (l.take (k+1)) x):=fun hh=>by
    rw [ht1,if_neg hh,Nat.add_zero];exact hm
   have cM:inv x=some y→m=e:=fun hh=>by rw [ho1 hh] at hm;omega
   have cn1:=aRb
   have hxl:x.length≤1000000:=by omega
   have hyl:y.length≤1000000:=by omega
   have hmm:=xZ e f
   conv=>whnf
   repeat' first|((first|(apply aX.go)|(show WN _ _ _;first|(show WN IntKind.i64 ((m:Int)-mm false (e:Int) (f:Int)) _;rw [hmm];refine WN.i64 (by omega) (by omega) ?_)|refine WN.i64 (by omega) (by omega) ?_)|(show Idx _ _ _ _ _;first|refine Idx.facM w2 i _ (by omega) ht (fun bk off k0 k1=>?_)|refine Idx.facM w2 k _ (by omega) hu (fun bk off m0 m1=>?_))|(show Ld _ _ _ _;first|(refine Ld.of (k0 _ _ (by (iterate 30 try first|assumption|exact aA.lr _|refine aA.lt ?_ (by assumption));first|done|assumption)) ?_)|(refine Ld.of (m0 _ _ (by (iterate 30 try first|assumption|refine aA.lt ?_ (by assumption));first|done|assumption)) ?_)|(refine Ld.of (k1 _ _ (by (iterate 30 try first|assumption|refine aA.lt ?_ (by assumption));first|done|assumption)) ?_)|(refine Ld.of (m1 _ _ (by (iterate 30 try first|assumption|refine aA.lt ?_ (by assumption));first|done|assumption)) ?_))|(show CN _ _ _ _ _ _;(refine CN.f rfl (cn1 _ _) (fun v h' hl hr=>?_);subst hr))|(show Cat _ _ _;first|refine Cat.four rfl hxl ?_|refine Cat.four rfl hyl ?_)|((first|apply oI.z|apply cI.z))|refine ⟨fun _=>aH.o (by assumption),?_⟩|refine DrN.run (by decide +kernel) ?_) <;> (conv=>whnf))|(show cnd _ _ _;first|(refine aDi (x:=y) (y:=dV++x) (fun h4=>?_) (fun h4=>?_) <;> (conv=>whnf))|(refine aDi (x:=x) (y:=dV++y) (fun h5=>?_) (fun h5=>?_) <;> (conv=>whnf))|(apply aB<;>intro _<;>first|(exfalso;omega)|conv=>whnf)|(apply bJ<;>intro _<;>first|(exfalso;omega)|conv=>whnf))
   all_goals first
    | (have hh:=hiv.2 (.inl ⟨by assumption,by assumption⟩)
       have hme':=cM hh
       exact ⟨rfl,l.length-(k+1),by omega,k+1,m-min e f,rfl,(by (iterate 30 try first|assumption|refine aA.lt ?_ (by assumption));first|done|assumption),rfl,by omega,vi (by omega),vi (by omega),by omega,⟨cY hh⟩⟩)
    | (have hh:=hiv.2 (.inr ⟨by assumption,by assumption⟩)
       have hme':=cM hh
       exact ⟨rfl,l.length-(k+1),by omega,k+1,m-min e f,rfl,(by (iterate 30 try first|assumption|refine aA.lt ?_ (by assumption));first|done|assumption),rfl,by omega,vi (by omega),vi (by omega),by omega,⟨cY hh⟩⟩)
    | exact ⟨rfl,l.length-(k+1),by omega,k+1,m,rfl,(by (iterate 30 try first|assumption|refine aA.lt ?_ (by assumption));first|done|assumption),rfl,by omega,vi (by omega),rfl,hme,⟨cN fun hh=>by
        rcases hiv.1 hh with ⟨a,b⟩|⟨a,b⟩
        all_goals first|exact absurd a (by assumption)|exact absurd b (by assumption)⟩⟩
end Go.Proofs.Y