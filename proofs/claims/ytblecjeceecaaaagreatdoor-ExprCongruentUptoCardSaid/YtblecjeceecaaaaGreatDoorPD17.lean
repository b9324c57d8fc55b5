/- The document's Poly. -/
import Derived.Test.YtblecjeceecaaaaGreatDoorPD12
import Derived.Test.YtblecjeceecaaaaGreatDoorPF10
import Derived.Test.YtblecjeceecaaaaGreatDoorSe
import Derived.Laws.StructEq
set_option linter.all false
set_option maxHeartbeats 4000000
set_option maxRecDepth 100000
namespace Go.Proofs.Y
open Go Go.Vc Go.Dig
attribute [local irreducible] Vc.Fn FnP
theorem aK7(t:Tr)(h:aA)(vs:List Value)(w:IsE h vs t):Fn0 T F.q41 [.agg vs.toArray] h fun v h'=>bBu h' v (dM t):=by
 have c1:=fun h w=>lR t h vs w
 have c2:=fun (x:bB t) h w=>aYo t 1 x.1 x.2 h vs w
 have f1:bB t->dM t=aO t:=fun x=>if_pos x
 have f2:¬bB t->dM t=.error 40:=fun x=>if_neg x
 have pg:bB t->∀p,aO t=.ok p->lG p:=fun x p e=>by
  obtain⟨S,h1,-,h2⟩:=kB t 1 x.1 e;exact h2.good
 obtain⟨r,hr⟩:=AH (dM t);rw[<-hr] at f1 f2 ⊢;obtain⟨r0,hr0⟩:=AH (aO t);simp only[<-hr0] at f1 c2 pg;obtain⟨op,arg,neg,l,m,name,ks⟩:=t;have wE:=w;obtain⟨va,vb,sk,rfl,-,-,-,-,-⟩:=w.isK;by_cases hv:bB (.mk op arg neg l m name ks)
 .have c3:=c2 hv;have fr:=f1 hv;have pg':=pg hv;replace c1:∀h:aA,IsE h [.int .i64 op,.int .i64 arg,.bool neg,va.val,vb.val,.string (txt name),sk.val] (.mk op arg neg l m name ks)->Fn0 T F.q14 [.agg #[.int .i64 op,.int .i64 arg,.bool neg,va.val,vb.val,.string (txt name),sk.val]] h fun v h'=>v=.bool true:=fun h w=>by
   have:=c1 h w;rw[aX hv] at this;exact this
  clear c2 f1 f2 pg;refine f0C ok D.q41 rfl ?_;conv=>whnf
  repeat' first|((first|(show LdN _ _ _ _ _;refine LdN.oA 0 rfl rfl ?_)|((first|apply oI.z|apply cI.z))|intro (_:Nat))<;>conv=>whnf)|(show CN _ _ _ _ _ _;(first|(refine CN.f rfl (c1 _ (wE.mono Ad)) (fun v h' hl hr'=>?_);obtain rfl:=hr')|(refine CN.f rfl (c3 _ (wE.mono Ab)) (fun v h' hl2 hr'=>?_);obtain⟨s,e,rfl,⟨he,p,hp,wp⟩|⟨he,hp⟩⟩:=hr'))<;>conv=>whnf)|(show cnd _ _ _;first|(apply aD<;>intro _<;>first|(exfalso;omega)|conv=>whnf)|(refine aI ?_))
  .obtain⟨l,e1,rw,tw⟩:=wp;have gd:=pg' p hp;have hlen:l.length<=200:=by have:=gd.len;rw[<-e1,bJb] at this;exact this
   have fw:∀x∈l,Sr 128 x.q:=fun x hx=>mN (gd.fit (pq x) (by rw[<-e1];exact bJg hx))
   have hs:s.l=l.length:=by have:=rw.len;rw[bK] at this;omega
   have hfin:r=.ok (l.map pq):=by rw[fr,hp,e1]
   clear gd pg' hp e1;refine LpN.of (fun k ρ hx L=>∃(i:Nat) (M:List El) (v:Value),k=l.length-i/\h'.le hx/\i<=l.length/\rd ρ 7=.int .i64 i/\rd ρ 6=v/\aF 74 4 v i (fl M) L/\M.length=i/\Hq (M.map pq=(l.take i).map pq)/\Hq (∀x∈M,RmW hx x)) l.length
    ⟨0,[],_,rfl,aA.lr _,bJe _,rfl,rfl,aF.nil _ _ _,rfl,⟨rfl⟩,⟨fun x hx=>by cases hx⟩⟩ ?_
   conv=>whnf
   repeat intro _
   rename_i q2 h2 L2 hI;obtain⟨i,M,v,rfl,hle,hi,e7,e6,g,hM,⟨hq⟩,⟨hw⟩⟩:=hI;conv at e6=>lhs;whnf
   subst e6;conv at e7=>lhs;whnf
   subst e7;have rwx:=rw.mono hle;by_cases hil:i=l.length
   .conv=>whnf
    repeat' ((first|((first|apply oI.z|apply cI.z))|(apply aB<;>intro _<;>try (exfalso;omega)))<;>conv=>whnf)
    refine RN.growE (K:=RmW) g hw fun h' s' hl' e' w'=>?_
    rw[hq,hil,bI4] at w';exact .inl ⟨_,s',hfin,by rw[e'],w'⟩
   .obtain⟨x,hx⟩:∃t,l[i]?=some t:=⟨_,bIq Aa⟩
    have hxm:=bIu hx;have wx:=(tw x hxm).m.mono hle;have fx:=fw x hxm;have hsn:=aY hx;obtain⟨xn,xa,xd,xf,xm,xq⟩:=x;obtain rfl:xn=sg xq:=wx.sg;dsimp only at fx;have c5:=fun h w=>aTb h xa xd xq w (fx.mono Ae)
    have wq:=wx.q;conv=>whnf
    repeat' ((first|(show Idx _ _ _ _ _;refine Idx.el rwx i _ Aa hx (fun ab ao aw=>?_))|(show LdN _ _ _ _ _;(refine LdN.elq aw Ad ?_))|(show Ld _ _ _ _;(refine Ld.elf aw Ad ?_))|(show DrN _ _ _ _ _ _;refine DrN.own [] (bJ9 _) Ak ?_)|(refine⟨fun _=>⟨aJ.o As,bJ9 _⟩,?_⟩)|((first|apply oI.z|apply cI.z))|intro (_:Nat)|(show CN _ _ _ _ _ _;(refine CN.f rfl (c5 _ (wq.mono Ad)) (fun v h' hl hr'=>?_);obtain⟨ga,gb,rfl,gw⟩:=hr'))|(show App _ _ _ _ _ _ _ _ _;refine App.growM (A:=[_]) (Fx:=L2) (size:=4) (bytes:=80) (z:=[.bool false,.slice none 0 0,.slice none 0 0,.slice none 0 0]) rfl rfl g ⟨_,0,none⟩ 1 1 [_,_,_,_] rfl (Has.four _) rfl Ae Aa Aa Ae (fun v' F' g' hA=>?_))|refine WN.i64 Aa Aa ?_|(apply aB<;>intro _<;>try (exfalso;omega)))<;>conv=>whnf)
    have g2:=aF.el (x:=⟨sg xq,ga,gb,xf,xm,xq⟩) g';refine⟨rfl,l.length-(i+1),Aa,i+1,M++[⟨sg xq,ga,gb,xf,xm,xq⟩],v',rfl,Ac,Aa,vi Aa,rfl,g2,by rw[bIo,hM];rfl,⟨?_⟩,⟨fun x hx=>?_⟩⟩
    .rw[bI3,hq,hsn,bI3];rfl
    .rcases bIx.1 hx with hx|hx
     .exact UpE.up Ab (hw x hx)
     .rw[bI2] at hx;subst hx;exact⟨gw.mono Ad,rfl,⟨wx.fac.rw.mono Ab,wx.fac.len⟩⟩
  .exact RN.a (.inr ⟨e,fr.trans hp,rfl⟩)
 .rw[f2 hv];replace c1:∀h:aA,IsE h [.int .i64 op,.int .i64 arg,.bool neg,va.val,vb.val,.string (txt name),sk.val] (.mk op arg neg l m name ks)->Fn0 T F.q14 [.agg #[.int .i64 op,.int .i64 arg,.bool neg,va.val,vb.val,.string (txt name),sk.val]] h fun v h'=>v=.bool false:=fun h w=>by
   have:=c1 h w;rw[aH hv] at this;exact this
  clear c2 f1 f2 pg;refine f0C ok D.q41 rfl ?_;conv=>whnf
  repeat' ((first|(show LdN _ _ _ _ _;refine LdN.oA 0 rfl rfl ?_)|(show CN _ _ _ _ _ _;(refine CN.f rfl (c1 _ (wE.mono Ad)) (fun v h' hl hr'=>?_);obtain rfl:=hr'))|((first|apply oI.z|apply cI.z))|intro (_:Nat))<;>conv=>whnf)
  exact RN.a (.inr ⟨40,rfl,rfl⟩)
end Go.Proofs.Y
/- When two forms are the same, as the document says it. -/
namespace Go.Proofs.Y
open Go Go.Vc Go.Dig
attribute [local irreducible] Vc.Fn FnP
theorem aHw(h:aA)(s1 s2:Sl)(p1 p2:Pol)(w1:gJ RmW h s1 p1)(w2:gJ RmW h s2 p2)(b1:aR5 p1)(b2:aR5 p2):Fn0 T F.q42 [s1.val,s2.val] h fun v h'=>v=.bool (dec (p1=p2)):=by
 obtain⟨l1,e1,r1,t1⟩:=w1;obtain⟨l2,e2,r2,t2⟩:=w2;have n1:p1.length=l1.length:=by rw[<-e1,bJb]
 have n2:p2.length=l2.length:=by rw[<-e2,bJb]
 have hl1:l1.length<=200:=by have:=b1.len;omega
 have hl2:l2.length<=200:=by have:=b2.len;omega
 have z1:∀x∈l1,fits x.q:=fun x hx=>b1.fit (pq x) (by rw[<-e1];exact bJg hx)
 have z2:∀x∈l2,fits x.q:=fun x hx=>b2.fit (pq x) (by rw[<-e2];exact bJg hx)
 have hs1:s1.l=l1.length:=by have:=r1.len;rw[bK] at this;omega
 have hs2:s2.l=l2.length:=by have:=r2.len;rw[bK] at this;omega
 obtain⟨B0,hD⟩:=AH (dec (p1=p2));have dT:p1=p2->B0=true:=fun x=>hD.trans (aX x)
 have dF:p1≠p2->B0=false:=fun x=>hD.trans (aH x)
 rw[<-hD];clear hD b1 b2;by_cases hne:l1.length=l2.length
 .have nf:∀(i:Nat) (x y:El),l1[i]?=some x->l2[i]?=some y->pq x≠pq y->p1≠p2:=fun i x y hx hy hn e=>hn (by
    rw[<-e1,<-e2] at e;have:=congrArg (fun l=>l[i]?) e
    simp only[bKo,hx,hy,bLz] at this;exact Option.some.inj this)
  refine f0C ok D.q42 rfl ?_;conv=>whnf
  repeat' first|((first|((first|apply oI.z|apply cI.z)))<;>conv=>whnf)|(show cnd _ _ _;first|(apply aD<;>intro _<;>first|(exfalso;omega)|conv=>whnf)|(refine aI ?_))
  refine LpN.of (fun r ρ hx L=>∃(i:Nat),r=l1.length-i/\h.le hx/\L=[]/\i<=l1.length/\rd ρ 5=.int .i64 i/\Hq ((l1.take i).map pq=(l2.take i).map pq)) l1.length
   ⟨0,rfl,aA.lr _,rfl,bJe _,rfl,⟨rfl⟩⟩ ?_
  conv=>whnf
  repeat intro _
  rename_i q2 h2 L2 hI;obtain⟨i,rfl,hle,rfl,hi,e5,⟨hq⟩⟩:=hI;conv at e5=>lhs;whnf
  subst e5;have r1x:=r1.mono hle;have r2x:=r2.mono hle;by_cases hil:i=l1.length
  .rw[hil,bI4,hne,bI4,e1,e2] at hq;have j:=dT hq;conv=>whnf
   repeat' ((first|((first|apply oI.z|apply cI.z))|(apply aB<;>intro _<;>try (exfalso;omega)))<;>conv=>whnf)
   exact RN.a (by rw[j])
  .obtain⟨x,hx⟩:∃t,l1[i]?=some t:=⟨_,bIq Aa⟩
   obtain⟨y,hy⟩:∃t,l2[i]?=some t:=⟨_,bIq Aa⟩
   have wx:=UpE.up hle (t1 x (bIu hx));have wy:=UpE.up hle (t2 y (bIu hy));have zx:=z1 x (bIu hx);have zy:=z2 y (bIu hy);have nx:=nf i x y hx hy;have hsx:=aY hx;have hsy:=aY hy;obtain⟨xn,xa,xd,xf,xm,xq⟩:=x;obtain rfl:xn=sg xq:=wx.sg;obtain⟨yn,ya,yd,yf,ym,yq⟩:=y;obtain rfl:yn=sg yq:=wy.sg;dsimp only at zx zy;have c1:=fun h w w'=>aJk h (sg xq) xa xd (dg 4294967296 (nu xq)) (dg 4294967296 (Go.Dig.dn xq)) (sg yq) ya yd (dg 4294967296 (nu yq)) (dg 4294967296 (Go.Dig.dn yq)) w w' (by rw[jO];exact⟨zx.1,zx.2⟩) (by rw[jO];exact⟨zy.1,zy.2⟩)
   simp only[jO] at c1;have v1:=lO wx.q (oK zx);have v2:=lO wy.q (oK zy);have xfw:=wx.fac.rw;have yfw:=wy.fac.rw;have c2:=fun h w w'=>yX h xf yf xm ym w w' wx.fac.len wy.fac.len
   obtain⟨A,hA⟩:=AH (jM xm ym);rw[<-hA] at c2;have kT:A=0->xm=ym:=fun e=>lP.1 (hA.symm.trans e)
   have kF:xm=ym->A=0:=fun e=>hA.trans (lP.2 e)
   clear hA;dsimp only at v1 v2 xfw yfw;conv=>whnf
   repeat' first|((first|(show Idx _ _ _ _ _;first|refine Idx.el r1x i _ Aa hx (fun ab ao aw=>?_)|refine Idx.el r2x i _ Aa hy (fun bb bo bw=>?_))|(show LdN _ _ _ _ _;first|(refine LdN.elq aw Ad ?_)|(refine LdN.elq bw Ad ?_))|(show Ld _ _ _ _;first|refine Ld.elf aw Ab ?_|refine Ld.elf bw Ab ?_)|(show CN _ _ _ _ _ _;first|(refine CN.f rfl (c1 _ (v1.mono Ad) (v2.mono Ad)) (fun v h' hl hr'=>?_);subst hr')|refine CN.quiet rfl (c2 _ (xfw.mono Ab) (yfw.mono Ab)) ?_)|((first|apply oI.z|apply cI.z))|refine⟨fun _=>aJ.o (aA.lr _),?_⟩|refine⟨fun _=>aJ.o Ab,?_⟩|refine WN.i64 Aa Aa ?_|refine DrN.run Ak ?_)<;>conv=>whnf)|(show cnd _ _ _;first|((first|apply aB|apply aD)<;>intro _<;>first|(exfalso;omega)|conv=>whnf)|(refine aI ?_)|(apply aU<;>intro _<;>first|(exfalso;omega)|conv=>whnf))
   all_goals first
    | exact⟨rfl,l1.length-(i+1),Aa,i+1,rfl,Ac,rfl,Aa,vi Aa,⟨by
        rw[hsx,hsy,bI3,bI3,hq];show _++[(xm,xq)]=_++[(ym,yq)];rw[kT Aa,(by assumption:xq=yq)]⟩⟩
    | (have j:=dF (nx fun e=>absurd (Prod.mk.inj e).2 Ab)
       exact RN.a (by rw[j]))
    | (have j:=dF (nx fun e=>absurd (kF (Prod.mk.inj e).1) Aa)
       exact RN.a (by rw[j]))
 .have j:=dF (fun e=>hne (by rw[<-n1,<-n2,e]))
  refine f0C ok D.q42 rfl ?_;conv=>whnf
  repeat' first|((first|((first|apply oI.z|apply cI.z)))<;>conv=>whnf)|(show cnd _ _ _;first|(apply aD<;>intro _<;>first|(exfalso;omega)|conv=>whnf)|(refine aI ?_))
  exact RN.a (by rw[j])
end Go.Proofs.Y
/- The law ExprPoly. -/
namespace Go.Proofs.Y
open Go Go.Vc Go.Dig
attribute [local irreducible] Vc.Fn FnP
end Go.Proofs.Y
/- The program's Congruent: factors that are equal. -/
namespace Go.Vc
open Go Go.Dig
theorem Inv.drewN{w0 w:World}{h0 h:aA}{L0 L:Vc.Own}(i:Inv w0 h0 L0 h L w)(n:Nat):Inv w0 h0 L0 h L (w.drewN n):=
 ⟨⟨i.imm,i.own,i.sep,i.nd⟩,i.os,i.tape,i.output,i.size,i.fr,i.hle,i.hnew,i.lnew,i.lsoft,i.frz⟩
end Go.Vc
namespace Go.Proofs.Y
open Go Go.Vc Go.Dig
def aNl(x y:Fac):Bool:=decide (x=y)
theorem bEo(x y:Fac)(w:World):(binOp .neq 79 (.agg (vV x).toArray) (.agg (vV y).toArray)).run Tryz.prog w=.ok (.bool (!aNl x y)) w:=by
 have hf : (Tryz.prog.fieldsOf 79).toList = [{ name := "Atom", type := 9, offset := 0, embedded := false, tag := "", pkgPath := "", byteOffset := 0 }, { name := "Exp", type := 3, offset := 1, embedded := false, tag := "", pkgPath := "", byteOffset := 16 }] := by kernel_rfl
 rw[run_neq_struct,run_equalIn_agg w 9999 _ _ _ (by kernel_rfl) (by kernel_rfl),hf];simp[Op.eqFields,go_sem,vV,fcv];obtain⟨a,i⟩:=x;obtain⟨b,j⟩:=y;unfold aNl;by_cases h1:a=b
 .by_cases h2:i=j
  .subst h1;subst h2;simp
  .simp[h1,h2];omega
 .simp[h1]
theorem aPu:∀a b:Mon,Lib.allEq aNl a b=dec (a=b)
 | [],[]=>(aX rfl).symm
 | [],y::b=>(aH (fun e=>by cases e)).symm
 | x::a,[]=>(aH (fun e=>by cases e)).symm
 | x::a,y::b=>by
  show (aNl x y && Lib.allEq aNl a b)=_
  rw[aPu a b];unfold dec aNl;by_cases h1:x=y<;>by_cases h2:a=b<;>simp[h1,h2]
theorem aE9{h:aA}{L:Vc.Own}{w:World}(s:Sat h L w){b off:Nat}{m:Mon}{c:Array Value}{T0:TypeId}{fz:Nat × Nat}(h2:h b=some (.cells c T0 fz))(h3:∀i,i<(fcs m).length->c[off+i]?=(fcs m)[i]?):
  ∀j,j<m.length->∀i v,(vV m[j]!)[i]?=some v->w.cell? ⟨b,off+j*2+i,none⟩=some v:=fun j hj i v hv=>by
 have hi:i<2:=(bIr.1 hv).1;have hw:=s.imm _ _ h2;have hl:=cR m;simp only[World.cell?,hw];rw[bKd,h3 _ Aa,aAo (t:=m[j]!) (by rw[getElem!_pos m j hj,bIq hj]) i hi];exact hv
theorem bEp(h:aA)(s1 s2:Sl)(a b:Mon)(w1:Rw h s1 2 (fcs a))(w2:Rw h s2 2 (fcs b))(hb:a.length<=1099511627776)(hb2:b.length<=1099511627776):Fn0 T F.q40 [s1.val,s2.val] h fun v h'=>v=.bool (dec (a=b)):=by
 have hl1:s1.l=a.length:=by have:=w1.len;rw[cR] at this;omega
 have hl2:s2.l=b.length:=by have:=w2.len;rw[cR] at this;omega
 by_cases hne:a.length=b.length
 .by_cases h0:a.length=0
  .have e:a=b:=by rw[bJp.1 h0,bJp.1 (hne.symm.trans h0)]
   rw[aX e];refine f0C ok D.q40 rfl ?_;conv=>whnf
   repeat' first|((first|((first|apply oI.z|apply cI.z)))<;>conv=>whnf)|(show cnd _ _ _;first|(apply aD<;>intro _<;>first|(exfalso;omega)|conv=>whnf)|(refine aI ?_))
   refine LpN.of (fun r ρ hx L=>rd ρ 13=.int .i64 0) 0 rfl ?_
   conv=>whnf
   repeat intro _
   rename_i q2 h2 L2 hI;conv at hI=>lhs;whnf
   subst hI;conv=>whnf
   repeat' ((first|((first|apply oI.z|apply cI.z))|(apply aB<;>intro _<;>try (exfalso;omega)))<;>conv=>whnf)
   exact RN.a rfl
  .obtain⟨c1,o1,k1,T1,f1,g1,g2,g3⟩:=w1.mem (fun e=>h0 (by have:=cR a;rw[e] at this;simp at this;omega))
   obtain⟨c2,o2,k2,T2,f2,g4,g5,g6⟩:=w2.mem (fun e=>h0 (by have:=cR b;rw[e] at this;simp at this;omega))
   obtain⟨a1,n1,d1⟩:=s1;obtain⟨a2,n2,d2⟩:=s2;dsimp only at g1 g4 hl1 hl2;subst g1 g4 hl1 hl2;refine Fn0.make fun w s=>?_
   have hcon:=AnyQ.slices_Equal Tryz.equalFL 2 (fun _=>by kernel_rfl) (fun _=>by kernel_rfl) vV (fun _=>rfl) aNl ⟨bEo,GuardAt.agg (fun x=>(vV x).toArray) (by kernel_rfl)⟩ c1 o1 a.length d1 c2 o2 b.length d2 a b w (bJf _) (bJf _) Aa Aa (aE9 s g2 g3) (aE9 s g5 g6)
   change Calls Tryz.prog 40 _ _ _ at hcon
   refine hcon.mono fun e w' he=>?_
   obtain⟨rfl,q,rfl⟩:=he;refine⟨h,[],(Inv.init s).drewN q,rfl,?_⟩;rw[bI4,bI4,aPu]
 .have e:a≠b:=fun e=>hne (by rw[e])
  rw[aH e];refine f0C ok D.q40 rfl ?_;conv=>whnf
  repeat' first|((first|((first|apply oI.z|apply cI.z)))<;>conv=>whnf)|(show cnd _ _ _;first|(apply aD<;>intro _<;>first|(exfalso;omega)|conv=>whnf)|(refine aI ?_))
  exact RN.a rfl
attribute [local irreducible] Vc.Fn FnP
theorem aXy(h:aA)(tb:Tb h)(x y:El)(wx:RmW h x)(wy:RmW h y)(fx:fits x.q)(fy:fits y.q):Fn0 T F.q38 [.agg x.cells.toArray,.agg y.cells.toArray] h fun v h'=>v=.bool (dec (pq x=pq y)):=by
 obtain⟨xn,xa,xd,xf,xm,xq⟩:=x;obtain rfl:xn=sg xq:=wx.sg;obtain⟨yn,ya,yd,yf,ym,yq⟩:=y;obtain rfl:yn=sg yq:=wy.sg;dsimp only at fx fy;have c1:=fun h tb w w'=>aIv h (sg xq) xa xd (sg yq) ya yd (some xq) (some yq) tb w w'
 have v1:=wx.q.isnum fx;have v2:=wy.q.isnum fy;dsimp only at v1 v2;have xfw:=wx.fac.rw;have yfw:=wy.fac.rw;dsimp only at xfw yfw;have c2:=fun h w w'=>bEp h xf yf xm ym w w' wx.fac.len wy.fac.len
 obtain⟨C,hC⟩:=AH (eX xq yq);have hC0:C=0↔xq=yq:=by rw[hC];exact jY
 replace c1:∀h,Tb h->bP h (sg xq) xa xd (some xq)->bP h (sg yq) ya yd (some yq)->Fn0 T F.q39 [.agg #[.bool (sg xq),xa.val,xd.val],.agg #[.bool (sg yq),ya.val,yd.val]] h fun v _=>v=.tuple #[.int .i64 C,.int .i64 0]:=fun h tb w w'=>by
  have:=c1 h tb w w';rw[show (aTj (some xq) (some yq))=(C,0) by rw[hC];rfl] at this
  exact this
 obtain⟨B0,hB⟩:=AH (dec (pq (⟨sg xq,xa,xd,xf,xm,xq⟩:El)=pq (⟨sg yq,ya,yd,yf,ym,yq⟩:El)));have bT:xm=ym->C=0->B0=true:=fun a b=>hB.trans (aX (by rw[show pq (⟨sg xq,xa,xd,xf,xm,xq⟩:El)=(xm,xq) from rfl,a,hC0.1 b];rfl))
 have bF:¬(xm=ym)->B0=false:=fun a=>hB.trans (aH fun e=>a (Prod.mk.inj e).1)
 have bG:C≠0->B0=false:=fun a=>hB.trans (aH fun e=>a (hC0.2 (Prod.mk.inj e).2))
 rw[<-hB];clear hB hC hC0;refine f0C ok D.q38 rfl ?_;conv=>whnf
 repeat' ((first|(show LdN _ _ _ _ _;first|refine LdN.oA 0 rfl rfl ?_|refine LdN.oA 1 rfl rfl ?_)|(show CN _ _ _ _ _ _;first|(refine CN.f rfl (c1 _ Ab (v1.mono Ad) (v2.mono Ad)) (fun v h' hl hr=>?_);subst hr)|(refine CN.f rfl (c2 _ (xfw.mono Ab) (yfw.mono Ab)) (fun v h' hl hr=>?_);subst hr))|((first|apply oI.z|apply cI.z))|intro (_:Nat)|(show Ld _ _ _ _;first|refine Ld.o 0 rfl rfl ?_|refine Ld.o 1 rfl rfl ?_)|(apply aD<;>intro _<;>try (exfalso;omega)))<;>conv=>whnf)
 all_goals first
  | exact RN.a (by rw[bG Aa])
  | exact RN.a (congrArg Value.bool (by
      by_cases e:xm=ym
      .rw[aX e,bT e Aa]
      .rw[aH e,bF e]))
theorem bEq(h:aA)(tb:Tb h)(s1 s2:Sl)(p1 p2:Pol)(w1:gJ RmW h s1 p1)(w2:gJ RmW h s2 p2)(b1:aR5 p1)(b2:aR5 p2):Fn0 T F.q37 [s1.val,s2.val,.func (.func F.q38) #[] #[]] h fun v h'=>v=.bool (dec (p1=p2)):=by
 obtain⟨l1,e1,r1,t1⟩:=w1;obtain⟨l2,e2,r2,t2⟩:=w2;have n1:p1.length=l1.length:=by rw[<-e1,bJb]
 have n2:p2.length=l2.length:=by rw[<-e2,bJb]
 have hl1:l1.length<=200:=by have:=b1.len;omega
 have hl2:l2.length<=200:=by have:=b2.len;omega
 have z1:∀x∈l1,fits x.q:=fun x hx=>b1.fit (pq x) (by rw[<-e1];exact bJg hx)
 have z2:∀x∈l2,fits x.q:=fun x hx=>b2.fit (pq x) (by rw[<-e2];exact bJg hx)
 have hs1:s1.l=l1.length:=by have:=r1.len;rw[bK] at this;omega
 have hs2:s2.l=l2.length:=by have:=r2.len;rw[bK] at this;omega
 obtain⟨B0,hD⟩:=AH (dec (p1=p2));have dT:p1=p2->B0=true:=fun x=>hD.trans (aX x)
 have dF:p1≠p2->B0=false:=fun x=>hD.trans (aH x)
 rw[<-hD];clear hD b1 b2;by_cases hne:l1.length=l2.length
 .have nf:∀(i:Nat) (x y:El),l1[i]?=some x->l2[i]?=some y->pq x≠pq y->p1≠p2:=fun i x y hx hy hn e=>hn (by
    rw[<-e1,<-e2] at e;have:=congrArg (fun l=>l[i]?) e
    simp only[bKo,hx,hy,bLz] at this;exact Option.some.inj this)
  refine f0C ok D.q37 rfl ?_;conv=>whnf
  repeat' first|((first|((first|apply oI.z|apply cI.z)))<;>conv=>whnf)|(show cnd _ _ _;first|(apply aD<;>intro _<;>first|(exfalso;omega)|conv=>whnf)|(refine aI ?_))
  refine LpN.of (fun r ρ hx L=>∃(i:Nat),r=l1.length-i/\h.le hx/\i<=l1.length/\rd ρ 17=.int .i64 i/\Hq ((l1.take i).map pq=(l2.take i).map pq)) l1.length
   ⟨0,rfl,aA.lr _,bJe _,rfl,⟨rfl⟩⟩ ?_
  conv=>whnf
  repeat intro _
  rename_i q2 h2 L2 hI;obtain⟨i,rfl,hle,hi,e17,⟨hq⟩⟩:=hI;conv at e17=>lhs;whnf
  subst e17;have r1x:=r1.mono hle;have r2x:=r2.mono hle;replace tb:=tb.mono hle;by_cases hil:i=l1.length
  .rw[hil,bI4,hne,bI4,e1,e2] at hq;have j:=dT hq;conv=>whnf
   repeat' ((first|((first|apply oI.z|apply cI.z))|(apply aB<;>intro _<;>try (exfalso;omega)))<;>conv=>whnf)
   exact RN.a (by rw[j])
  .obtain⟨x,hx⟩:∃t,l1[i]?=some t:=⟨_,bIq Aa⟩
   obtain⟨y,hy⟩:∃t,l2[i]?=some t:=⟨_,bIq Aa⟩
   have wx:RmW h2 x:=UpE.up hle (t1 x (bIu hx));have wy:RmW h2 y:=UpE.up hle (t2 y (bIu hy));have zx:=z1 x (bIu hx);have zy:=z2 y (bIu hy);have nx:=nf i x y hx hy;have hsx:=aY hx;have hsy:=aY hy;have c1:=fun h tb w w'=>aXy h tb x y w w' zx zy
   obtain⟨C,hC⟩:=AH (dec (pq x=pq y));have cT:C=true->pq x=pq y:=fun e=>Classical.byContradiction fun n=>by rw[hC,aH n] at e;cases e
   have cF:C=false->pq x≠pq y:=fun e n=>by rw[hC,aX n] at e;cases e
   rw[<-hC] at c1;clear hC;conv=>whnf
   repeat' first|((first|(show Idx _ _ _ _ _;first|refine Idx.el r1x i _ Aa hx (fun ab ao aw=>?_)|refine Idx.el r2x i _ Aa hy (fun bb bo bw=>?_))|(show LdN _ _ _ _ _;first|(refine LdN.el4 aw Ad ?_)|(refine LdN.el4 bw Ad ?_)|refine LdN.oA 0 rfl rfl ?_|refine LdN.oA 1 rfl rfl ?_)|(show CN _ _ _ _ _ _;(refine CN.f rfl (c1 _ Ab (UpE.up Ad wx) (UpE.up Ad wy)) (fun v h' hl hr=>?_);subst hr))|((first|apply oI.z|apply cI.z))|intro (_:Nat)|refine WN.i64 Aa Aa ?_|refine Sto.l 0 rfl rfl rfl ?_)<;>conv=>whnf)|(show cnd _ _ _;first|(apply aB<;>intro _<;>first|(exfalso;omega)|conv=>whnf)|(refine aI ?_)|(refine bO (fun hb=>?_) (fun hb=>?_)<;>(first|cases hb|subst hb)<;>(conv=>whnf)))
   all_goals first
    | exact⟨rfl,l1.length-(i+1),Aa,i+1,rfl,Ac,Aa,vi Aa,⟨by
        rw[hsx,hsy,bI3,bI3,hq];show _++[pq x]=_++[pq y];rw[cT (by first|assumption|rfl)]⟩⟩
    | (have j:=dF (nx (cF (by first|assumption|rfl)))
       exact RN.a (by rw[j]))
 .have j:=dF (fun e=>hne (by rw[<-n1,<-n2,e]))
  refine f0C ok D.q37 rfl ?_;conv=>whnf
  repeat' first|((first|((first|apply oI.z|apply cI.z)))<;>conv=>whnf)|(show cnd _ _ _;first|(apply aD<;>intro _<;>first|(exfalso;omega)|conv=>whnf)|(refine aI ?_))
  exact RN.a (by rw[j])
end Go.Proofs.Y
/- The program's Congruent. -/
namespace Go.Proofs.Y
open Go Go.Vc Go.Dig
attribute [local irreducible] Vc.Fn FnP
theorem eU(t u:Tr)(h:aA)(vs us:List Value)(tb:Tb h)(pw:Pw h)(w:IsE h vs t)(w2:IsE h us u):Fn0 T F.q11 [.agg vs.toArray,.agg us.toArray] h fun v h'=>v=.tuple #[.bool (dI t u).1,.int .i64 ((dI t u).2:Nat)]:=by
 have c1:=fun h tb w=>nJ t h vs tb w
 have c2:=fun h tb w=>nJ u h us tb w
 have c3:=fun h tb pw w=>aHt t h vs tb pw w
 have c4:=fun h tb pw w=>aHt u h us tb pw w
 obtain⟨X,hX⟩:=AH (dI t u);have k0:¬bB t->X=(false,40):=fun x=>hX.trans (aHu (.inl x))
 have k0':¬bB u->X=(false,40):=fun x=>hX.trans (aHu (.inr x))
 have k1:∀n,bB t->bB u->dM t=.error n->X=(false,n):=fun n a b c=>hX.trans (aXv a b c)
 have k2:∀p n,bB t->bB u->dM t=.ok p->dM u=.error n->X=(false,n):=fun p n a b c d=>hX.trans (aXw a b c d)
 have k3:∀p q,bB t->bB u->dM t=.ok p->dM u=.ok q->X=(dec (p=q),0):=fun p q a b c d=>hX.trans (aXx a b c d)
 rw[<-hX];clear hX;obtain⟨⟨o1,g1,e1,l1,m1,i1,ks1⟩,ht⟩:=AH t;obtain⟨a1,b1,z1,hvs,-⟩:=(ht.symm▸w:IsE h vs (.mk o1 g1 e1 l1 m1 i1 ks1)).isK;obtain⟨⟨o2,g2,e2,l2,m2,i2,ks2⟩,hu⟩:=AH u;obtain⟨a2,b2,z2,hus,-⟩:=(hu.symm▸w2:IsE h us (.mk o2 g2 e2 l2 m2 i2 ks2)).isK;subst hvs;subst hus;clear ht hu;refine f0C ok D.q11 rfl ?_;conv=>whnf
 repeat' first|((first|(show LdN _ _ _ _ _;first|refine LdN.oA 0 rfl rfl ?_|refine LdN.oA 1 rfl rfl ?_)|((first|apply oI.z|apply cI.z))|intro (_:Nat))<;>conv=>whnf)|(show CN _ _ _ _ _ _;(first|(refine CN.f rfl (c1 _ Ab (w.mono Ad)) (fun v h' hl hr=>?_);subst hr)|(refine CN.f rfl (c2 _ Af (w2.mono Ab)) (fun v h' hl hr=>?_);subst hr)|(refine CN.f rfl (c3 _ Af (pw.mono Ac) (w.mono Ac)) (fun v h' hl hr=>?_);obtain⟨p1,s1,h1,rfl,x1⟩|⟨n1,hn1,h1,rfl⟩:=bBv hr)|(refine CN.f rfl (c4 _ Af (pw.mono Ac) (w2.mono Ac)) (fun v h' hl hr=>?_);obtain⟨p2,s2,h2,rfl,x2⟩|⟨n2,hn2,h2,rfl⟩:=bBv hr)|(refine CN.f rfl (bEq _ Af s1 s2 p1 p2 (x1.mono Ab) (x2.mono Ad) (uI h1) (uI h2)) (fun v h' hl hr=>?_);subst hr))<;>conv=>whnf)|(show cnd _ _ _;first|(apply aD<;>intro _<;>first|(exfalso;omega)|conv=>whnf)|(refine aI ?_)|(apply aU<;>intro _<;>first|(exfalso;omega)|conv=>whnf))
 all_goals first
  | exact RN.a (by rw[k3 _ _ Ab Ab h1 h2];rfl)
  | exact RN.a (by rw[k2 _ _ Ab Ab h1 h2];rfl)
  | exact RN.a (by rw[k1 _ Ab Ab h1];rfl)
  | exact RN.a (by rw[k0 Ab];rfl)
  | exact RN.a (by rw[k0' Ab];rfl)
end Go.Proofs.Y
/- The document's Congruent. -/
namespace Go.Proofs.Y
open Go Go.Vc Go.Dig
attribute [local irreducible] Vc.Fn FnP
theorem aDm(t u:Tr)(h:aA)(vs us:List Value)(w:IsE h vs t)(w2:IsE h us u):Fn0 T F.q12 [.agg vs.toArray,.agg us.toArray] h fun v h'=>v=.tuple #[.bool (dI t u).1,.int .i64 ((dI t u).2:Nat)]:=by
 have c1:=fun h w=>lR t h vs w
 have c2:=fun h w=>lR u h us w
 have c3:=fun h w=>aK7 t h vs w
 have c4:=fun h w=>aK7 u h us w
 obtain⟨X,hX⟩:=AH (dI t u);have k0:¬bB t->X=(false,40):=fun x=>hX.trans (aHu (.inl x))
 have k0':¬bB u->X=(false,40):=fun x=>hX.trans (aHu (.inr x))
 have k1:∀n,bB t->bB u->dM t=.error n->X=(false,n):=fun n a b c=>hX.trans (aXv a b c)
 have k2:∀p n,bB t->bB u->dM t=.ok p->dM u=.error n->X=(false,n):=fun p n a b c d=>hX.trans (aXw a b c d)
 have k3:∀p q,bB t->bB u->dM t=.ok p->dM u=.ok q->X=(dec (p=q),0):=fun p q a b c d=>hX.trans (aXx a b c d)
 rw[<-hX];clear hX;obtain⟨⟨o1,g1,e1,l1,m1,i1,ks1⟩,ht⟩:=AH t;obtain⟨a1,b1,z1,hvs,-⟩:=(ht.symm▸w:IsE h vs (.mk o1 g1 e1 l1 m1 i1 ks1)).isK;obtain⟨⟨o2,g2,e2,l2,m2,i2,ks2⟩,hu⟩:=AH u;obtain⟨a2,b2,z2,hus,-⟩:=(hu.symm▸w2:IsE h us (.mk o2 g2 e2 l2 m2 i2 ks2)).isK;subst hvs;subst hus;clear ht hu;refine f0C ok D.q12 rfl ?_;conv=>whnf
 repeat' first|((first|(show LdN _ _ _ _ _;first|refine LdN.oA 0 rfl rfl ?_|refine LdN.oA 1 rfl rfl ?_)|((first|apply oI.z|apply cI.z))|intro (_:Nat))<;>conv=>whnf)|(show CN _ _ _ _ _ _;(first|(refine CN.f rfl (c1 _ (w.mono Ad)) (fun v h' hl hr=>?_);subst hr)|(refine CN.f rfl (c2 _ (w2.mono Ab)) (fun v h' hl hr=>?_);subst hr)|(refine CN.f rfl (c3 _ (w.mono Ac)) (fun v h' hl hr=>?_);obtain⟨p1,s1,h1,rfl,x1⟩|⟨n1,hn1,h1,rfl⟩:=bBv hr)|(refine CN.f rfl (c4 _ (w2.mono Ac)) (fun v h' hl hr=>?_);obtain⟨p2,s2,h2,rfl,x2⟩|⟨n2,hn2,h2,rfl⟩:=bBv hr)|(refine CN.f rfl (aHw _ s1 s2 p1 p2 (x1.mono Ab) (x2.mono Ad) (uI h1) (uI h2)) (fun v h' hl hr=>?_);subst hr))<;>conv=>whnf)|(show cnd _ _ _;first|(apply aD<;>intro _<;>first|(exfalso;omega)|conv=>whnf)|(refine aI ?_)|(apply aU<;>intro _<;>first|(exfalso;omega)|conv=>whnf))
 all_goals first
  | exact RN.a (by rw[k3 _ _ Ab Ab h1 h2];rfl)
  | exact RN.a (by rw[k2 _ _ Ab Ab h1 h2];rfl)
  | exact RN.a (by rw[k1 _ Ab Ab h1];rfl)
  | exact RN.a (by rw[k0 Ab];rfl)
  | exact RN.a (by rw[k0' Ab];rfl)
end Go.Proofs.Y
/- The law ExprCongruent. -/
namespace Go.Proofs.Y
open Go Go.Vc Go.Dig
attribute [local irreducible] Vc.Fn FnP
theorem aDn(h:aA)(tb:Tb h)(pw:Pw h)(t:Tr)(vs:List Value)(w:IsE h vs t)(u:Tr)(us:List Value)(w2:IsE h us u):Fn0 T F.q3 [.agg vs.toArray,.agg us.toArray] h fun v h'=>v=.bool true:=by
 have c1:=fun h tb pw w w2=>eU t u h vs us tb pw w w2
 have c2:=fun h w w2=>aDm t u h vs us w w2
 obtain⟨⟨X1,X2⟩,hX⟩:=AH (dI t u);simp only[<-hX] at c1 c2;have c9:=fun h tb pw=>uA h tb pw
 clear hX;obtain⟨⟨o1,g1,e1,l1,m1,i1,ks1⟩,ht⟩:=AH t;obtain⟨a1,b1,z1,hvs,-⟩:=(ht.symm▸w:IsE h vs (.mk o1 g1 e1 l1 m1 i1 ks1)).isK;obtain⟨⟨o2,g2,e2,l2,m2,i2,ks2⟩,hu⟩:=AH u;obtain⟨a2,b2,z2,hus,-⟩:=(hu.symm▸w2:IsE h us (.mk o2 g2 e2 l2 m2 i2 ks2)).isK;subst hvs;subst hus;clear ht hu;refine f0C ok D.q3 rfl ?_;conv=>whnf
 repeat' first|((first|(show LdN _ _ _ _ _;first|refine LdN.oA 0 rfl rfl ?_|refine LdN.oA 1 rfl rfl ?_)|(show CN _ _ _ _ _ _;first|(refine CN.f rfl (c1 _ Ab (pw.mono Ad) (w.mono Ad) (w2.mono Ad)) (fun v h' hl hr=>?_);subst hr)|(refine CN.f rfl (c2 _ (w.mono Ab) (w2.mono Ab)) (fun v h' hl hr=>?_);subst hr)|(refine CN.f rfl (c9 _ Af (pw.mono Ac)) (fun v h' hl hr=>?_);subst hr))|((first|apply oI.z|apply cI.z))|intro (_:Nat))<;>conv=>whnf)|(show cnd _ _ _;first|(apply aD<;>intro _<;>first|(exfalso;omega)|conv=>whnf)|(refine wF (fun _=>?_) (fun hne=>?_)<;>first|exact absurd rfl hne|(conv=>whnf)))
 all_goals exact RN.a rfl
end Go.Proofs.Y