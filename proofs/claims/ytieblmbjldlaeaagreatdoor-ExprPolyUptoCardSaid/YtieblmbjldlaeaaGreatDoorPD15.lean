/- The document's Poly. -/
import Derived.Test.YtieblmbjldlaeaaGreatDoorPD12
import Derived.Test.YtieblmbjldlaeaaGreatDoorPF10
set_option linter.all false
set_option maxHeartbeats 4000000
set_option maxRecDepth 20000
namespace Go.Proofs.Y
open Go Go.Vc Go.Dig
attribute [local irreducible] Vc.Fn FnP
theorem aMd (t:Tr) (h:aA) (vs:List Value) (w:IsE h vs t):Fn0 T F.q8 [.agg vs.toArray] h fun v h'=>aRg h' v (jP t):=by
 have c1:=fun h w=>aHc t h vs w
 have c2:=fun (x:dJ t) h w=>aMb t 1 x.1 x.2 h vs w
 have f1:dJ t→jP t=aO t:=fun x=>if_pos x
 have f2:¬dJ t→jP t=.error 40:=fun x=>if_neg x
 have pg:dJ t→∀p,aO t=.ok p→gW p:=fun x p e=>by
  obtain ⟨S,h1,-,h2⟩:=gX t 1 x.1 e
  exact h2.good
 obtain ⟨r,hr⟩:∃r,r=jP t:=⟨_,rfl⟩
 rw [← hr] at f1 f2 ⊢
 obtain ⟨r0,hr0⟩:∃r0,r0=aO t:=⟨_,rfl⟩
 simp only [← hr0] at f1 c2 pg
 obtain ⟨op,arg,neg,l,m,name,ks⟩:=t
 have wE:=w
 obtain ⟨va,vb,sk,rfl,-,-,-,-,-⟩:=w.isK
 by_cases hv:dJ (.mk op arg neg l m name ks)
 ·have c3:=c2 hv
  have fr:=f1 hv
  have pg':=pg hv
  replace c1:∀h:aA,IsE h [.int .i64 op,.int .i64 arg,.bool neg,va.val,vb.val,.string (txt name),sk.val] (.mk op arg neg l m name ks)→Fn0 T F.q14 [.agg #[.int .i64 op,.int .i64 arg,.bool neg,va.val,vb.val,.string (txt name),sk.val]] h fun v h'=>v=.bool true:=fun h w=>by
   have:=c1 h w
   rw [cF hv] at this
   exact this
  clear c2 f1 f2 pg
  refine f0C ok D.q8 rfl ?_
  conv=>whnf
  repeat' first|((first|(show LdN _ _ _ _ _;refine LdN.oA 0 rfl rfl ?_)|((first|apply oI.z|apply cI.z))|intro (_:Nat)) <;> (conv=>whnf))|(show CN _ _ _ _ _ _;first|(refine CN.f rfl (c1 _ (wE.mono (by first|assumption|exact aA.lr _))) (fun v h' hl hr'=>?_);obtain rfl:=hr';conv=>whnf)|(refine CN.f rfl (c3 _ (wE.mono (by assumption))) (fun v h' hl2 hr'=>?_);obtain ⟨s,e,rfl,⟨he,p,hp,wp⟩|⟨he,hp⟩⟩:=hr' <;> (conv=>whnf)))|(show cnd _ _ _;first|(apply aE<;>intro _<;>first|(exfalso;omega)|conv=>whnf)|(refine aI ?_))
  ·obtain ⟨l,e1,rw,tw⟩:=wp
   have gd:=pg' p hp
   have hlen:l.length≤200:=by have:=gd.len;rw [← e1,aWb] at this;exact this
   have fw:∀x∈l,Sr 128 x.q:=fun x hx=>iT (gd.fit (pq x) (by rw [← e1];exact List.mem_map_of_mem hx))
   have hs:s.l=l.length:=by have:=rw.len;rw [aV] at this;omega
   have hfin:r=.ok (l.map pq):=by rw [fr,hp,e1]
   clear gd pg' hp e1
   refine LpN.of (fun k ρ hx L=>∃(i:Nat) (M:List El) (v:Value),k=l.length-i∧h'.le hx∧i≤l.length∧rd ρ 7=.int .i64 i∧rd ρ 6=v∧aD 37 4 v i (fl M) L∧M.length=i∧Hq (M.map pq=(l.take i).map pq)∧Hq (∀x∈M,RmW hx x)) l.length
    ⟨0,[],_,rfl,aA.lr _,aWe _,rfl,rfl,aD.nil _ _ _,rfl,⟨rfl⟩,⟨fun x hx=>by cases hx⟩⟩ ?_
   conv=>whnf
   repeat intro _
   rename_i q2 h2 L2 hI
   obtain ⟨i,M,v,rfl,hle,hi,e7,e6,g,hM,⟨hq⟩,⟨hw⟩⟩:=hI
   conv at e6=>lhs;whnf
   subst e6
   conv at e7=>lhs;whnf
   subst e7
   have rwx:=rw.mono hle
   by_cases hil:i=l.length
   ·conv=>whnf
    repeat' first|((first|((first|apply oI.z|apply cI.z))) <;> (conv=>whnf))|(apply aB<;>intro _<;>first|(exfalso;omega)|conv=>whnf)
    refine RN.growE (K:=RmW) g hw fun h' s' hl' e' w'=>?_
    rw [hq,hil,aV4] at w'
    exact .inl ⟨_,s',hfin,by rw [e'],w'⟩
   ·obtain ⟨x,hx⟩:∃t,l[i]?=some t:=⟨_,aVq (by omega)⟩
    have hxm:=aVu hx
    have wx:=(tw x hxm).m.mono hle
    have fx:=fw x hxm
    have hsn:=aZ hx
    obtain ⟨xn,xa,xd,xf,xm,xq⟩:=x
    obtain rfl:xn=sg xq:=wx.sg
    dsimp only at fx
    have c5:=fun h w=>aIr h xa xd xq w (fx.mono (by decide))
    have wq:=wx.q
    conv=>whnf
    repeat' first|((first|(show Idx _ _ _ _ _;refine Idx.el rwx i _ (by omega) hx (fun ab ao aw=>?_))|(show LdN _ _ _ _ _;(refine LdN.elq aw (by first|assumption|exact aA.lr _) ?_))|(show Ld _ _ _ _;(refine Ld.elf aw (by first|assumption|exact aA.lr _) ?_))|(show DrN _ _ _ _ _ _;refine DrN.own [] (List.nil_sublist _) (by decide +kernel) ?_)|(refine ⟨fun _=>⟨aH.o (by first|exact aA.lr _|assumption|exact aA.lt (by assumption) (by assumption)),List.nil_sublist _⟩,?_⟩)|((first|apply oI.z|apply cI.z))|intro (_:Nat)|(show CN _ _ _ _ _ _;(refine CN.f rfl (c5 _ (wq.mono (by first|assumption|exact aA.lr _))) (fun v h' hl hr'=>?_);obtain ⟨ga,gb,rfl,gw⟩:=hr'))|(show App _ _ _ _ _ _ _ _ _;refine App.growM (A:=[_]) (Fx:=L2) (size:=4) (bytes:=80) (z:=[.bool false,.slice none 0 0,.slice none 0 0,.slice none 0 0]) rfl rfl g ⟨_,0,none⟩ 1 1 [_,_,_,_] rfl (Has.four _) rfl (by decide) (by omega) (by omega) (by decide) (fun v' F' g' hA=>?_))|refine WN.i64 (by omega) (by omega) ?_) <;> (conv=>whnf))|(apply aB<;>intro _<;>first|(exfalso;omega)|conv=>whnf)
    have g2:=aD.el (x:=⟨sg xq,ga,gb,xf,xm,xq⟩) g'
    refine ⟨rfl,l.length-(i+1),by omega,i+1,M++[⟨sg xq,ga,gb,xf,xm,xq⟩],v',rfl,(by (iterate 30 try first|assumption|refine aA.lt ?_ (by assumption));first|done|assumption),by omega,vi (by omega),rfl,g2,by rw [aVo,hM];rfl,⟨?_⟩,⟨fun x hx=>?_⟩⟩
    ·rw [aV3,hq,hsn,aV3];rfl
    ·rcases aVx.1 hx with hx|hx
     ·exact UpE.up (by assumption) (hw x hx)
     ·rw [aV2] at hx;subst hx
      exact ⟨gw.mono (by first|assumption|exact aA.lr _),rfl,⟨wx.fac.rw.mono (by assumption),wx.fac.len⟩⟩
  ·exact RN.a (.inr ⟨e,fr.trans hp,rfl⟩)
 ·rw [f2 hv]
  replace c1:∀h:aA,IsE h [.int .i64 op,.int .i64 arg,.bool neg,va.val,vb.val,.string (txt name),sk.val] (.mk op arg neg l m name ks)→Fn0 T F.q14 [.agg #[.int .i64 op,.int .i64 arg,.bool neg,va.val,vb.val,.string (txt name),sk.val]] h fun v h'=>v=.bool false:=fun h w=>by
   have:=c1 h w
   rw [aK hv] at this
   exact this
  clear c2 f1 f2 pg
  refine f0C ok D.q8 rfl ?_
  conv=>whnf
  repeat' first|((first|(show LdN _ _ _ _ _;refine LdN.oA 0 rfl rfl ?_)|(show CN _ _ _ _ _ _;(refine CN.f rfl (c1 _ (wE.mono (by first|assumption|exact aA.lr _))) (fun v h' hl hr'=>?_);obtain rfl:=hr'))|((first|apply oI.z|apply cI.z))|intro (_:Nat)) <;> (conv=>whnf))
  exact RN.a (.inr ⟨40,rfl,rfl⟩)
end Go.Proofs.Y
/- When two forms are the same, as the document says it. -/
namespace Go.Proofs.Y
open Go Go.Vc Go.Dig
attribute [local irreducible] Vc.Fn FnP
structure aRh (p:Pol):Prop where
 fit:∀t∈p,cK t.2
 len:p.length≤200
theorem zU (h:aA) (s1 s2:Sl) (p1 p2:Pol) (w1:eJ RmW h s1 p1) (w2:eJ RmW h s2 p2) (b1:aRh p1) (b2:aRh p2):Fn0 T F.q9 [s1.val,s2.val] h fun v h'=>v=.bool (dec (p1=p2)):=by
 obtain ⟨l1,e1,r1,t1⟩:=w1
 obtain ⟨l2,e2,r2,t2⟩:=w2
 have n1:p1.length=l1.length:=by rw [← e1,aWb]
 have n2:p2.length=l2.length:=by rw [← e2,aWb]
 have hl1:l1.length≤200:=by have:=b1.len;omega
 have hl2:l2.length≤200:=by have:=b2.len;omega
 have z1:∀x∈l1,cK x.q:=fun x hx=>b1.fit (pq x) (by rw [← e1];exact List.mem_map_of_mem hx)
 have z2:∀x∈l2,cK x.q:=fun x hx=>b2.fit (pq x) (by rw [← e2];exact List.mem_map_of_mem hx)
 have hs1:s1.l=l1.length:=by have:=r1.len;rw [aV] at this;omega
 have hs2:s2.l=l2.length:=by have:=r2.len;rw [aV] at this;omega
 obtain ⟨B0,hD⟩:∃B0,B0=dec (p1=p2):=⟨_,rfl⟩
 have dT:p1=p2→B0=true:=fun x=>hD.trans (cF x)
 have dF:p1≠p2→B0=false:=fun x=>hD.trans (aK x)
 rw [← hD]
 clear hD b1 b2
 by_cases hne:l1.length=l2.length
 ·have nf:∀(i:Nat) (x y:El),l1[i]?=some x→l2[i]?=some y→pq x≠pq y→p1≠p2:=fun i x y hx hy hn e=>hn (by
    rw [← e1,← e2] at e
    have:=congrArg (fun l=>l[i]?) e
    simp only [List.getElem?_map,hx,hy,Option.map_some] at this
    exact Option.some.inj this)
  refine f0C ok D.q9 rfl ?_
  conv=>whnf
  repeat' first|((first|((first|apply oI.z|apply cI.z))) <;> (conv=>whnf))|(show cnd _ _ _;first|(apply aE<;>intro _<;>first|(exfalso;omega)|conv=>whnf)|(refine aI ?_))
  refine LpN.of (fun r ρ hx L=>∃(i:Nat),r=l1.length-i∧h.le hx∧L=[]∧i≤l1.length∧rd ρ 5=.int .i64 i∧Hq ((l1.take i).map pq=(l2.take i).map pq)) l1.length
   ⟨0,rfl,aA.lr _,rfl,aWe _,rfl,⟨rfl⟩⟩ ?_
  conv=>whnf
  repeat intro _
  rename_i q2 h2 L2 hI
  obtain ⟨i,rfl,hle,rfl,hi,e5,⟨hq⟩⟩:=hI
  conv at e5=>lhs;whnf
  subst e5
  have r1x:=r1.mono hle
  have r2x:=r2.mono hle
  by_cases hil:i=l1.length
  ·rw [hil,aV4,hne,aV4,e1,e2] at hq
   have j:=dT hq
   conv=>whnf
   repeat' first|((first|((first|apply oI.z|apply cI.z))) <;> (conv=>whnf))|(apply aB<;>intro _<;>first|(exfalso;omega)|conv=>whnf)
   exact RN.a (by rw [j])
  ·obtain ⟨x,hx⟩:∃t,l1[i]?=some t:=⟨_,aVq (by omega)⟩
   obtain ⟨y,hy⟩:∃t,l2[i]?=some t:=⟨_,aVq (by omega)⟩
   have wx:=UpE.up hle (t1 x (aVu hx))
   have wy:=UpE.up hle (t2 y (aVu hy))
   have zx:=z1 x (aVu hx)
   have zy:=z2 y (aVu hy)
   have nx:=nf i x y hx hy
   have hsx:=aZ hx
   have hsy:=aZ hy
   obtain ⟨xn,xa,xd,xf,xm,xq⟩:=x
   obtain rfl:xn=sg xq:=wx.sg
   obtain ⟨yn,ya,yd,yf,ym,yq⟩:=y
   obtain rfl:yn=sg yq:=wy.sg
   dsimp only at zx zy
   have c1:=fun h w w'=>aK3 h (sg xq) xa xd (dg 4294967296 (nu xq)) (dg 4294967296 (Go.Dig.dn xq)) (sg yq) ya yd (dg 4294967296 (nu yq)) (dg 4294967296 (Go.Dig.dn yq)) w w' (by rw [pI];exact ⟨zx.1,zx.2⟩) (by rw [pI];exact ⟨zy.1,zy.2⟩)
   simp only [pI] at c1
   have v1:=kS wx.q (pN zx)
   have v2:=kS wy.q (pN zy)
   have xfw:=wx.fac.rw
   have yfw:=wy.fac.rw
   have c2:=fun h w w'=>rI h xf yf xm ym w w' wx.fac.len wy.fac.len
   obtain ⟨A,hA⟩:∃A,A=fO xm ym:=⟨_,rfl⟩
   rw [← hA] at c2
   have kT:A=0→xm=ym:=fun e=>iB.1 (hA.symm.trans e)
   have kF:xm=ym→A=0:=fun e=>hA.trans (iB.2 e)
   clear hA
   dsimp only at v1 v2 xfw yfw
   conv=>whnf
   repeat' first|((first|(show Idx _ _ _ _ _;first|refine Idx.el r1x i _ (by omega) hx (fun ab ao aw=>?_)|refine Idx.el r2x i _ (by omega) hy (fun bb bo bw=>?_))|(show LdN _ _ _ _ _;first|(refine LdN.elq aw (by first|assumption|exact aA.lr _) ?_)|(refine LdN.elq bw (by first|assumption|exact aA.lr _) ?_))|(show Ld _ _ _ _;first|refine Ld.elf aw (by assumption) ?_|refine Ld.elf bw (by assumption) ?_)|(show CN _ _ _ _ _ _;first|(refine CN.f rfl (c1 _ (v1.mono (by first|assumption|exact aA.lr _)) (v2.mono (by first|assumption|exact aA.lr _))) (fun v h' hl hr'=>?_);subst hr')|refine CN.quiet rfl (c2 _ (xfw.mono (by assumption)) (yfw.mono (by assumption))) ?_)|((first|apply oI.z|apply cI.z))|refine ⟨fun _=>aH.o (aA.lr _),?_⟩|refine ⟨fun _=>aH.o (by assumption),?_⟩|refine WN.i64 (by omega) (by omega) ?_|refine DrN.run (by decide +kernel) ?_) <;> (conv=>whnf))|(show cnd _ _ _;first|(apply aB<;>intro _<;>first|(exfalso;omega)|conv=>whnf)|(apply aE<;>intro _<;>first|(exfalso;omega)|conv=>whnf)|(refine aI ?_)|(apply bJ<;>intro _<;>first|(exfalso;omega)|conv=>whnf))
   all_goals first
    | exact ⟨rfl,l1.length-(i+1),by omega,i+1,rfl,(by (iterate 30 try first|assumption|refine aA.lt ?_ (by assumption));first|done|assumption),rfl,by omega,vi (by omega),⟨by
        rw [hsx,hsy,aV3,aV3,hq]
        show _++[(xm,xq)]=_++[(ym,yq)]
        rw [kT (by omega),(by assumption:xq=yq)]⟩⟩
    | (have j:=dF (nx fun e=>absurd (Prod.mk.inj e).2 (by assumption))
       exact RN.a (by rw [j]))
    | (have j:=dF (nx fun e=>absurd (kF (Prod.mk.inj e).1) (by omega))
       exact RN.a (by rw [j]))
 ·have j:=dF (fun e=>hne (by rw [← n1,← n2,e]))
  refine f0C ok D.q9 rfl ?_
  conv=>whnf
  repeat' first|((first|((first|apply oI.z|apply cI.z))) <;> (conv=>whnf))|(show cnd _ _ _;first|(apply aE<;>intro _<;>first|(exfalso;omega)|conv=>whnf)|(refine aI ?_))
  exact RN.a (by rw [j])
end Go.Proofs.Y
/- The law ExprPoly. -/
namespace Go.Proofs.Y
open Go Go.Vc Go.Dig
theorem aMe (t:Tr):∃(p:Pol) (e:Nat),aRh p∧((jP t=.ok p∧e=0)∨(p=[]∧jP t=.error e))∧∀h v,aRg h v (jP t)→∃s:Sl,v=.tuple #[s.val,.int .i64 e]∧eJ RmW h s p:=by
 cases hr:jP t with
 | error n=>
  refine ⟨[],n,⟨(fun t h=>by cases h),aWe _⟩,.inr ⟨rfl,rfl⟩,fun h v w=>?_⟩
  rcases w with ⟨p,s,e,-⟩|⟨m,e,hv⟩
  ·cases e
  ·cases e
   exact ⟨⟨none,0,0⟩,hv,[],rfl,Rw.nil _ _,fun x hx=>by cases hx⟩
 | ok p=>
  have hv:dJ t:=Classical.byContradiction fun hn=>by unfold jP at hr;rw [if_neg hn] at hr;cases hr
  have hr2:aO t=.ok p:=by unfold jP at hr;rw [if_pos hv] at hr;exact hr
  obtain ⟨S,-,-,g⟩:=gX t 1 hv.1 hr2
  refine ⟨p,0,⟨g.good.fit,g.good.len⟩,.inl ⟨rfl,rfl⟩,fun h v w=>?_⟩
  rcases w with ⟨p',s,e,hv,w⟩|⟨m,e,hv⟩
  ·cases e
   exact ⟨s,hv,w⟩
  ·cases e
attribute [local irreducible] Vc.Fn FnP
theorem aMf (h:aA) (tb:Tb h) (pw:Pw h) (t:Tr) (vs:List Value) (w:IsE h vs t):Fn0 T F.q3 [.agg vs.toArray] h fun v h'=>v=.bool true:=by
 obtain ⟨p,e,hb,-,hp⟩:=aMe t
 have c1:=fun h tb pw w=>aO3 t h vs tb pw w
 have c2:=fun h w=>aMd t h vs w
 obtain ⟨r,hr⟩:∃r,r=jP t:=⟨_,rfl⟩
 simp only [← hr] at c1 c2 hp
 have c3:=fun h s1 s2 w w'=>zU h s1 s2 p p w w' hb hb
 rw [cF rfl] at c3
 have c9:=fun h tb pw=>aN2 h tb pw
 clear hr
 obtain ⟨⟨op,arg,neg,l,m,name,ks⟩,ht⟩:∃x,x=t:=⟨_,rfl⟩
 obtain ⟨a,b,s,hvs,-⟩:=(ht.symm▸w:IsE h vs (.mk op arg neg l m name ks)).isK
 subst hvs
 refine f0C ok D.q3 rfl ?_
 conv=>whnf
 repeat' first|((first|(show LdN _ _ _ _ _;refine LdN.oA 0 rfl rfl ?_)|(show CN _ _ _ _ _ _;first|(refine CN.f rfl (c1 _ (by assumption) (pw.mono (by first|assumption|exact aA.lr _)) (w.mono (by first|assumption|exact aA.lr _))) (fun v h' hl hr=>?_);obtain ⟨s1,rfl,w1⟩:=hp _ _ hr)|(refine CN.f rfl (c2 _ (w.mono (by assumption))) (fun v h' hl hr=>?_);obtain ⟨s2,rfl,w2⟩:=hp _ _ hr)|(refine CN.f rfl (c3 _ _ _ (w1.mono (by assumption)) (w2.mono (by first|assumption|exact aA.lr _))) (fun v h' hl hr=>?_);obtain rfl:=hr)|(refine CN.f rfl (c9 _ (by (iterate 30 try first|assumption|refine Tb.mono ?_ (by assumption));first|done|assumption) (pw.mono (by (iterate 30 try first|assumption|refine aA.lt ?_ (by assumption));first|done|assumption))) (fun v h' hl hr=>?_);obtain rfl:=hr))|((first|apply oI.z|apply cI.z))|intro (_:Nat)) <;> (conv=>whnf))|(show cnd _ _ _;first|(apply aE<;>intro _<;>first|(exfalso;omega)|conv=>whnf)|(refine aI ?_))
 obtain ⟨l,e1,r1,t1⟩:=w1
 have hlen:l.length≤200:=by have:=hb.len;rw [← e1,aWb] at this;exact this
 have fw:∀x∈l,cK x.q:=fun x hx=>hb.fit (pq x) (by rw [← e1];exact List.mem_map_of_mem hx)
 have hs:s1.l=l.length:=by have:=r1.len;rw [aV] at this;omega
 have r1x:=r1.mono (h':=h') (by (iterate 30 try first|assumption|refine aA.lt ?_ (by assumption));first|done|assumption)
 have t1x:∀x∈l,RmW h' x:=fun x hx=>UpE.up (by (iterate 30 try first|assumption|refine aA.lt ?_ (by assumption));first|done|assumption) (t1 x hx)
 refine LpN.of (fun k ρ hx L=>∃(i:Nat),k=l.length-i∧h'.le hx∧i≤l.length∧rd ρ 7=.int .i64 i) l.length
  ⟨0,rfl,aA.lr _,aWe _,rfl⟩ ?_
 conv=>whnf
 repeat intro _
 rename_i q2 h2 L2 hI
 obtain ⟨i,rfl,hle,hi,e7⟩:=hI
 conv at e7=>lhs;whnf
 subst e7
 have rwx:=r1x.mono hle
 by_cases hil:i=l.length
 ·conv=>whnf
  repeat' first|((first|((first|apply oI.z|apply cI.z))) <;> (conv=>whnf))|(apply aB<;>intro _<;>first|(exfalso;omega)|conv=>whnf)
  exact RN.a rfl
 ·obtain ⟨x,hx⟩:∃t,l[i]?=some t:=⟨_,aVq (by omega)⟩
  have hxm:=aVu hx
  have wx:RmW h2 x:=UpE.up hle (t1x x hxm)
  have fx:=fw x hxm
  obtain ⟨xn,xa,xd,xf,xm,xq⟩:=x
  obtain rfl:xn=sg xq:=wx.sg
  dsimp only at fx
  have c5:=fun h w=>yB h xa xd xq w (pN fx)
  have wq:=wx.q
  conv=>whnf
  repeat' first|((first|(show Idx _ _ _ _ _;refine Idx.el rwx i _ (by omega) hx (fun ab ao aw=>?_))|(show LdN _ _ _ _ _;(refine LdN.elq aw (by first|assumption|exact aA.lr _) ?_))|(show CN _ _ _ _ _ _;(refine CN.f rfl (c5 _ (wq.mono (by first|assumption|exact aA.lr _))) (fun v h' hl hr=>?_);obtain rfl:=hr))|((first|apply oI.z|apply cI.z))|refine WN.i64 (by omega) (by omega) ?_) <;> (conv=>whnf))|(apply aB<;>intro _<;>first|(exfalso;omega)|conv=>whnf)
  exact ⟨rfl,l.length-(i+1),by omega,i+1,rfl,(by (iterate 30 try first|assumption|refine aA.lt ?_ (by assumption));first|done|assumption),by omega,vi (by omega)⟩
end Go.Proofs.Y