/- ExprDerivePoly: the card. -/
import Derived.Test.YtblecjeceecaaaaGreatDoorFrT
import Derived.Test.YtblecjeceecaaaaGreatDoorPX2
import Derived.Test.YtblecjeceecaaaaGreatDoorPV2
import Derived.Test.YtblecjeceecaaaaGreatDoorE86
set_option linter.all false
set_option maxHeartbeats 8000000
set_option maxRecDepth 20000
namespace Go.Proofs.Y
open Go Go.Vc Go.Dig
def ex7(op arg:Int)(neg:Bool)(n d:Sl)(name:List Nat)(s:Sl):List Value:=[.int .i64 op,.int .i64 arg,.bool neg,n.val,d.val,.string (txt name),s.val]
def zero7:List Value:=[.int .i64 0,.int .i64 0,.bool false,.slice none 0 0,.slice none 0 0,.string (txt []),.slice none 0 0]
theorem ln_Bb(a:Nat):ln 4294967296 a<=ln 65536 a:=(aR tlB).2 (bJr ((aR tlb).1 (bJf _)) (bLg Ae _))
theorem sz_256{q:Rat}(s:Sr 256 q):Sz 1073741824 q:=by
 have h1:=s.num;have h2:=s.den;exact⟨bJd (ln_Bb _) (bJd h1 Ae),bJd (ln_Bb _) (bJd h2 Ae)⟩
attribute [local irreducible] Vc.Fn FnP
theorem slope_ct(nm:List Nat)(h:aA)(x:El)(w:RmW h x)(hf:fits x.q)(hk:x.m.length<=300)(hd:∀f∈x.m,f.2<=64)(ha:∀f∈x.m,Atm f.1)(hc:sX x.m):
  Fn0 T F.q67 [.agg x.cells.toArray,.string (txt nm)] h fun v h'=>∃a ok e,v=.tuple #[a,.bool ok]/\VE h' a e/\(ok=true->∀f,sm f (unP e)=x.q*dn (b8 nm) f x.m):=by
 obtain⟨xn,xa,xd,xf,xm,xq⟩:=x;obtain rfl:xn=sg xq:=w.sg;have wq:=w.q;have wf:=w.fac.rw;dsimp only at hf hk hd ha hc wq wf ⊢;have hpl:=pln_atm ha;have z5:Sr 128 xq:=jF hf;have cO:=fun h w=>aYh h xa xd xq w hf
 have hfl:xf.l=xm.length:=by have:=wf.len;rw[cR] at this;omega
 have hfl2:(El.mk (sg xq) xa xd xf xm xq).f.l=xm.length:=hfl;clear w;refine f0C ok D.q67 rfl ?_;conv=>whnf
 repeat ((first|apply oI.z|apply cI.z);conv=>whnf)
 intro be;conv=>whnf
 repeat ((first|apply oI.z|apply cI.z);conv=>whnf)
 intro b4;conv=>whnf
 repeat' ((first|(show LdN _ _ _ _ _;refine LdN.oA 1 rfl rfl ?_)|(show CN _ _ _ _ _ _;(refine CN.f rfl (cO _ (wq.mono Ad)) (fun v h' hl hr=>?_);obtain⟨a0,d0,rfl,hq0⟩:=hr))|intro (b6:Nat)|((first|apply oI.z|apply cI.z))|refine Sto.l 0 rfl rfl rfl ?_)<;>conv=>whnf)
 refine LpN.of (fun r ρ hx L=>∃(i:Nat) (V:Value) (F1:Vc.Own) (xs:List Value) (acc:List (Tr × Nat)) (fd:Bool) (C:Rat) (a d:Sl),r=xm.length-i/\h.le hx/\i<=xm.length/\L=F1++[(b6,.cells [Value.bool (sg C),a.val,d.val].toArray 44 (0,0)),(b4,.cells zero7.toArray Ty.api_Expr (0,0)),(be,.cells [Value.bool (sg xq),xa.val,xd.val,xf.val].toArray 74 (0,0))]/\rd ρ 9=.int .i64 i/\rd ρ 7=V/\rd ρ 8=.bool fd/\aF Ty.api_Expr 7 V acc.length xs F1/\KC hx xs (acc.map fun p=>aG 9 (p.2:Int) [p.1])/\acc.length=i/\Hq (Rds2 acc (lessF (b8 nm) (xm.take i)))/\IsQ hx a d C/\Sr 256 C/\Hq ((fd=false/\C=xq/\cf (xm.take i) (b8 nm)=0)\/(fd=true/\C=xq*((cf (xm.take i) (b8 nm):Nat):Rat)/\cf (xm.take i) (b8 nm)≠0))) xm.length
  ⟨0,_,[],[],[],false,xq,a0,d0,rfl,Ab,bJe _,rfl,rfl,rfl,rfl,aF.nil _ _ _,rfl,rfl,⟨trivial⟩,hq0,z5.mono Ae,⟨.inl ⟨rfl,rfl,rfl⟩⟩⟩ ?_
 clear hq0;conv=>whnf
 repeat intro _
 rename_i q2 h2 L2 hI;obtain⟨i,V,F1,xs,acc,fd,C,a,d,rfl,hle,hi,rfl,e9,e7,e8,g,hK,hacc,⟨hR⟩,hQ,sQ,⟨hfd⟩⟩:=hI;conv at e9=>lhs;whnf
 subst e9;conv at e7=>lhs;whnf
 subst e7;conv at e8=>lhs;whnf
 subst e8;have wfx:=wf.mono hle;by_cases hil:i=xm.length
 .rw[hil,bI4] at hR hfd;rcases hfd with ⟨rfl,rfl,h0⟩|⟨rfl,hC,h0⟩
  .conv=>whnf
   repeat' ((first|(show Ld _ _ _ _;refine Ld.tl3 (A:=[]) (F:=F1) (G:=[_,_]) rfl ?_)|(show Sto _ _ _ _;refine Sto.tl3 (A:=[]) (F:=F1) (G:=[_]) rfl rfl ?_)|(show LdN _ _ _ _ _;refine LdN.tl3 (A:=[]) (F:=F1) (G:=[_]) rfl ?_)|((first|apply oI.z|apply cI.z))|(apply aB<;>intro _<;>try (exfalso;omega)))<;>conv=>whnf)
   all_goals exact RN.a (R:=fun v h'=>∃a ok e,v=.tuple #[a,.bool ok]/\VE h' a e/\(ok=true->∀f,sm f (unP e)=C*dn (b8 nm) f xm)) ⟨_,true,zeroN,rfl,⟨1,0,false,⟨none,0,0⟩,⟨none,0,0⟩,[],⟨none,0,0⟩,rfl,IsE.num (bV.zero _)⟩,fun _ f=>slope_none h0 f⟩
  .have sz:=sz_256 sQ;have cT:=fun h a d w=>aTb h a d C w (sQ.mono Ae)
   have cLL:=fun h c d (w:eA h c d C)=>RLiteral_ct h (sg C) c d _ (lO w sz).num'
   have hX:=litX_un (n:=sg C) (l:=dg 4294967296 (nu C)) (m:=dg 4294967296 (Go.Dig.dn C)) (q:=C) (jO C);obtain⟨⟨Tl,el⟩,hXe⟩:=AH (aYd (iV (sg C) (dg 4294967296 (nu C)) (dg 4294967296 (Go.Dig.dn C))));simp only[<-hXe] at cLL hX;replace cLL:∀h c d,eA h c d C->Fn0 T F.q123 [.agg #[.bool (sg C),c.val,d.val]] h fun v h'=>∃a,v=.tuple #[a,.int .i64 el]/\VE h' a Tl:=cLL
   replace hX:Hq (el=0->Tl=mkL C):=⟨hX⟩;have hlm:(acc.map fun p:Tr × Nat=>aG 9 (p.2:Int) [p.1]).length=acc.length:=bJb ..
   have hC2:=Hq.mk hC;have hR2:=Hq.mk hR;clear hXe sz hC hR;conv=>whnf
   repeat' ((first|(show Ld _ _ _ _;refine Ld.tl3 (A:=[]) (F:=F1) (G:=[_,_]) rfl ?_)|(show LdN _ _ _ _ _;refine LdN.tl (A:=[]) (F:=F1) rfl ?_)|(show CN _ _ _ _ _ _;first|(refine CN.growT g hK hlm.symm rfl (fun hg s5 F2 hlg e5 wKK=>?_);subst e5;refine CN.f rfl (cT _ _ _ (hQ.mono Ab)) (fun v h' hl hr=>?_);obtain⟨c7,d7,rfl,hq7⟩:=hr)|(refine CN.f rfl (cLL _ _ _ hq7) (fun v h8 hl8 hr=>?_);obtain⟨_,rfl,op7,ar7,ng7,nn7,dd7,nm7,ss7,rfl,hE7⟩:=hr))|intro (b15:Nat)|((first|apply oI.z|apply cI.z))|refine Sto.l 0 rfl rfl rfl ?_|(apply aB<;>intro _<;>try (exfalso;omega)))<;>conv=>whnf)
   refine LpN.of (fun r ρ hx L=>∃(k:Nat) (J:Vc.Own) (Tk:Tr) (op ar:Int) (ng:Bool) (n2 d2:Sl) (na:List Nat) (s2:Sl),r=acc.length-k/\hx=h8/\k<=acc.length/\L=J++((b15,.cells (ex7 op ar ng n2 d2 na s2).toArray Ty.api_Expr (0,0))::(F2++[(b6,.cells [Value.bool (sg C),a.val,d.val].toArray 44 (0,0)),(b4,.cells zero7.toArray Ty.api_Expr (0,0)),(be,.cells [Value.bool (sg xq),xa.val,xd.val,xf.val].toArray 74 (0,0))]))/\rd ρ 17=.int .i64 k/\Hq (Tk=slopeT Tl (acc.take k))/\Hq (∀H,PutsTo h8 J H->IsE H (ex7 op ar ng n2 d2 na s2) Tk)) acc.length
    ⟨0,[],Tl,op7,ar7,ng7,nn7,dd7,nm7,ss7,rfl,rfl,bJe _,rfl,rfl,⟨rfl⟩,⟨fun H w=>by rw[show H=h8 from w];exact hE7⟩⟩ ?_
   clear hE7 g hK;conv=>whnf
   repeat intro _
   rename_i q3 hz L3 hI;obtain⟨k,J,Tk,op,ar,ng,n2,d2,na,s2,rfl,rfl,hk2,rfl,e17,⟨hT⟩,⟨hE⟩⟩:=hI;conv at e17=>lhs;whnf
   subst e17;have wKx:=wKK.mono (h':=hz) Ac;have hsl:s5.l=acc.length:=by have:=wKx.len;rw[hlm] at this;exact this
   by_cases hkl:k=acc.length
   .rw[hkl,bI4] at hT;conv=>whnf
    repeat' ((first|(show LdN _ _ _ _ _;first|refine LdN.tl (A:=[]) (F:=J) rfl ?_|refine LdN.tl4 (A:=[]) (F:=J) (G:=_::F2) rfl ?_)|(show Sto _ _ _ _;refine Sto.tl4 (A:=[]) (F:=J) (G:=_::F2) rfl rfl ?_)|((first|apply oI.z|apply cI.z))|(apply aB<;>intro _<;>try (exfalso;omega)))<;>conv=>whnf)
    refine RN.keepJ J [] (fun H wHH=>RN.a (R:=fun v h'=>∃a ok e,v=.tuple #[a,.bool ok]/\VE h' a e/\(ok=true->∀f,sm f (unP e)=xq*dn (b8 nm) f xm)) ⟨_,_,Tk,rfl,⟨op,ar,ng,n2,d2,na,s2,rfl,hE H wHH⟩,fun x f=>?_⟩)
    rw[lF] at x;unfold dec at x;have x0:el=0:=by have:=of_decide_eq_true x;omega
    rw[hT,hX.out x0,hC2.out];exact slope_one hc.1 hpl hR2.out f
   .obtain⟨p,hp⟩:∃p,acc[k]?=some p:=⟨_,bIq Aa⟩
    have htk:(acc.map fun p:Tr × Nat=>aG 9 (p.2:Int) [p.1])[k]?=some (aG 9 (p.2:Int) [p.1]):=by rw[bKo,hp];rfl
    have hTn:aG 7 0 [Tk,aG 9 (p.2:Int) [p.1]]=slopeT Tl (acc.take (k+1)):=by
     rw[aY hp,hT];unfold slopeT;rw[bNi];rfl
    replace hE:=Hq.mk hE;replace hTn:=Hq.mk hTn;clear hT hp;conv=>whnf
    repeat' ((first|(show LdN _ _ _ _ _;refine LdN.tl (A:=[]) (F:=J) rfl ?_)|(show Idx _ _ _ _ _;refine Idx.kid wKx k _ Aa htk (fun ad op3 arg3 neg3 a3 b3 name3 s3 hE3 hld=>?_))|refine hld _ _ _ (aA.lr _) ?_|intro (bs3:Nat)|((first|apply oI.z|apply cI.z))|refine⟨fun _=>aJ.cons _,?_⟩|refine⟨fun hst=>(by cases (show true=false from hst)),?_⟩|(show Sto _ _ _ _;refine Sto.tl (A:=[_]) (X:=J) rfl rfl ?_)|refine WN.i64 Aa Aa ?_|refine DrN.run Ak ?_|(apply aB<;>intro _<;>try (exfalso;omega)))<;>conv=>whnf)
    all_goals exact⟨rfl,acc.length-(k+1),Aa,k+1,(bs3,.cells (ex7 op ar ng n2 d2 na s2++ex7 op3 arg3 neg3 a3 b3 name3 s3).toArray Ty.api_Expr (0,0))::J,aG 7 0 [Tk,aG 9 (p.2:Int) [p.1]],7,0,false,⟨none,0,0⟩,⟨none,0,0⟩,[],⟨some ⟨bs3,0,none⟩,2,2⟩,rfl,rfl,Aa,rfl,vi Aa,hTn,⟨fun H wHH=>by
      obtain⟨H0,w0,hl,rfl⟩:=wHH;exact IsE.node ⟨Ae,Ae⟩ ⟨Ae,Ae⟩ (IsK.two (hE.out H0 w0) (hE3.mono w0.le) rfl rfl hl)⟩⟩
 .obtain⟨t,ht⟩:∃t,xm[i]?=some t:=⟨_,bIq Aa⟩
  have htm:=bIu ht;have he:=hd t htm;have hs:=ha t htm;have he0:=hc.2 t htm;obtain⟨s,e⟩:=t;dsimp only at he hs he0;obtain⟨K1,tr,hpY,hun,hone⟩:=atom_read hs;have hcf:=cf_before hc.1 ht;have hcs:=cf_snoc ht (b8 nm);have hls:=less_snoc (x:=b8 nm) ht
  repeat' first|((first|(apply bJ.go)|(show Ld _ _ _ _;first|refine Ld.tl3 (A:=[]) (F:=F1) (G:=[_,_]) rfl ?_|refine Ld.o 0 rfl rfl ?_)|(show Idx _ _ _ _ _;refine Idx.fac wfx i _ Aa ht (fun bk off k0 k1=>?_))|(show LdN _ _ _ _ _;refine LdN.two (k0 _) (k1 _) ?_)|refine Sto.l 0 rfl rfl rfl ?_)<;>conv=>whnf)|(refine cI.stopS 9 ?_)|(intro (b10:Nat);conv=>whnf)|((first|apply oI.z|apply cI.z);conv=>whnf)|(apply aB<;>intro _<;>first|(exfalso;omega)|conv=>whnf)
  refine⟨bJ.cut (fun ρ hx Lx=>∃(n1:Nat) (fd:Bool) (C:Rat) (a d:Sl),rd ρ 11=.int .i64 n1/\rd ρ 8=.bool fd/\n1=(if s=b8 nm then e-1 else e)/\h2.le hx/\Lx=(b10,.cells [Value.string ⟨s.toArray⟩,.int .i64 e].toArray 79 (0,0))::(F1++[(b6,.cells [Value.bool (sg C),a.val,d.val].toArray 44 (0,0)),(b4,.cells zero7.toArray Ty.api_Expr (0,0)),(be,.cells [Value.bool (sg xq),xa.val,xd.val,xf.val].toArray 74 (0,0))])/\IsQ hx a d C/\Sr 256 C/\Hq ((fd=false/\C=xq/\cf (xm.take (i+1)) (b8 nm)=0)\/(fd=true/\C=xq*((cf (xm.take (i+1)) (b8 nm):Nat):Rat)/\cf (xm.take (i+1)) (b8 nm)≠0))) ?_ ?_⟩
  .by_cases hsx:s=b8 nm
   .rw[hsx] at hcf;rw[hcf,if_pos hsx,bJc] at hcs;have hfd1:fd=false/\C=xq:=by
     rcases hfd with ⟨h1,h2,-⟩|⟨-,-,h3⟩
     .exact⟨h1,h2⟩
     .exact absurd hcf h3
    obtain⟨rfl,rfl⟩:=hfd1;have cII:=fun h=>aGa h (e:Int) Aa Aa
    have se:Sr 128 ((e:Int):Rat):=by
     refine jF ?_;exact wN (e:Int) Aa Aa
    have cP:=fun h a b c d w w'=>aAf h a b c d C ((e:Int):Rat) w w' (z5.mono Ae) (se.mono Ae)
    have sPP:Sr 256 (C*((e:Int):Rat)):=aL1 z5 se;have eP:C*((e:Int):Rat)=C*((cf (xm.take (i+1)) (b8 nm):Nat):Rat):=by rw[hcs,Rat.intCast_natCast]
    obtain⟨PE,hPE⟩:=AH ((e:Int):Rat);simp only[<-hPE] at cII cP sPP eP;have hnew:cf (xm.take (i+1)) (b8 nm)≠0:=by rw[hcs];exact he0
    clear hPE hcf hcs hls hR hfd;conv=>whnf
    repeat' first|((first|(show LdN _ _ _ _ _;refine LdN.tl (A:=[_]) (F:=F1) rfl ?_)|(show CN _ _ _ _ _ _;first|(refine CN.f rfl (cII _) (fun v h' hl hr=>?_);obtain⟨a1,d1,rfl,hq1⟩:=hr)|(refine CN.f rfl (cP _ _ _ _ _ Ao Ab) (fun v h' hl hr=>?_);obtain⟨a3,d3,rfl,hq3⟩:=hr))|(show Sto _ _ _ _;refine Sto.tl (A:=[_]) (X:=F1) rfl rfl ?_)|((first|apply oI.z|apply cI.z))|refine⟨fun _=>aJ.o Ab,?_⟩|refine⟨fun hst=>(by cases (show true=false from hst)),?_⟩|refine WN.i64 Aa Aa ?_|refine Ld.o 0 rfl rfl ?_|refine DrN.run Ak ?_)<;>conv=>whnf)|(show cnd _ _ _;first|(refine aMp (x:=s) (y:=b8 nm) (fun hx=>?_) (fun hx=>?_)<;>first|(exact absurd hsx hx)|(conv=>whnf)))
    all_goals exact⟨rfl,e-1,true,C*PE,a3,d3,vi Aa,rfl,(if_pos hsx).symm,Ac,rfl,Ab,sPP,⟨.inr ⟨rfl,eP,hnew⟩⟩⟩
   .rw[if_neg hsx] at hcs;replace hcs:cf (xm.take (i+1)) (b8 nm)=cf (xm.take i) (b8 nm):=hcs;rw[<-hcs] at hfd;replace hfd:=Hq.mk hfd;clear hcf hcs hls hR;conv=>whnf
    repeat' first|((first|((first|apply oI.z|apply cI.z))|refine Ld.o 0 rfl rfl ?_)<;>conv=>whnf)|(show cnd _ _ _;first|(refine aMp (x:=s) (y:=b8 nm) (fun hx=>?_) (fun hx=>?_)<;>first|(exact absurd hx hsx)|(conv=>whnf)))
    all_goals exact⟨rfl,e,fd,C,a,d,rfl,rfl,(if_neg hsx).symm,Ad,rfl,Ab,sQ,hfd⟩
  conv=>whnf
  repeat intro _
  rename_i h3 L3 hJ;obtain⟨n1,fd1,C1,a1,d1,e11,e8,hn1,hle3,rfl,hQ1,sQ1,hfd1⟩:=hJ;conv at e11=>lhs;whnf
  subst e11;conv at e8=>lhs;whnf
  subst e8;have cRR:∀h,Fn0 T F.q122 [.string ⟨s.toArray⟩] h fun v h'=>∃a,v=.tuple #[a,.int .i64 0,.int .i64 0]/\VE h' a tr:=fun h=>by
   have:=RParse1 h (s.map UInt8.toNat) K1 tr hpY;rw[<-uG] at this;exact this
  have hn64:n1<=64:=by rw[hn1];split<;>omega
  have hRn:Hq (Rds2 (acc++[(tr,n1)]) (lessF (b8 nm) (xm.take (i+1)))):=⟨by rw[hls];exact Rds2.snoc hR hn1 hun hone⟩
  have hKx:=hK.mono hle3;have hal:(acc.map fun p:Tr × Nat=>aG 9 (p.2:Int) [p.1]).length=i:=by rw[bJb,hacc]
  clear hfd hR hls hcs hcf hpY hun hone hn1 hK;by_cases h32:32<n1
  .conv=>whnf
   repeat' ((first|(show CN _ _ _ _ _ _;(refine CN.f rfl (cRR _) (fun v h' hl hr=>?_);obtain⟨_,rfl,op7,ar7,ng7,nn7,dd7,nm7,ss7,rfl,hE7⟩:=hr))|(show Sto _ _ _ _;first|refine Sto.tl3 (A:=[_,_]) (F:=F1) (G:=[_]) rfl rfl ?_|refine Sto.l 0 rfl rfl rfl ?_)|(show LdN _ _ _ _ _;refine LdN.tl3 (A:=[_,_]) (F:=F1) (G:=[_]) rfl ?_)|((first|apply oI.z|apply cI.z))|intro (_:Nat)|refine Ld.o 0 rfl rfl ?_|(apply aB<;>intro _<;>try (exfalso;omega)))<;>conv=>whnf)
   all_goals exact RN.a (R:=fun v h'=>∃a ok e,v=.tuple #[a,.bool ok]/\VE h' a e/\(ok=true->∀f,sm f (unP e)=xq*dn (b8 nm) f xm)) ⟨_,false,bI,rfl,VE.zero _,fun x=>by cases x⟩
  .conv=>whnf
   repeat' first|((first|(show CN _ _ _ _ _ _;(refine CN.f rfl (cRR _) (fun v h' hl hr=>?_);obtain⟨_,rfl,op7,ar7,ng7,nn7,dd7,nm7,ss7,rfl,hE7⟩:=hr))|(show App _ _ _ _ _ _ _ _ _;(refine App.keep 1 rfl (fun hl1=>?_);refine App.keep 0 rfl (fun hl2=>?_);refine App.keep 0 rfl (fun hl3=>?_);refine App.keep 0 rfl (fun hl4=>?_);refine App.kids (A:=[]) (F:=F1) (z:=zero7) rfl rfl g (IsK.one (IsE.node ⟨Ae,Ae⟩ ⟨Aa,Aa⟩ (IsK.one (hE7.mono Ad) rfl hl1)) rfl hl2) Ac (by show acc.length+1<=_;omega) (fun v' F' ys g' kc=>?_)))|((first|apply oI.z|apply cI.z))|intro (_:Nat)|refine WN.i64 Aa Aa ?_|refine LdN.o 0 rfl rfl ?_|refine Ld.o 0 rfl rfl ?_|refine Sto.l 0 rfl rfl rfl ?_)<;>conv=>whnf)|(show cnd _ _ _;first|((first|apply aB|apply aD)<;>intro _<;>first|(exfalso;omega)|conv=>whnf)|(refine aI ?_))
   all_goals exact⟨rfl,xm.length-(i+1),Aa,i+1,v',F',xs++ys,acc++[(tr,n1)],fd1,C1,a1,d1,rfl,Ac,Aa,rfl,vi Aa,rfl,rfl,by rw[bIo];exact g',by rw[bI3];exact KC.app (hKx.mono Ac) kc,by rw[bIo];show acc.length+1=_;omega,hRn,Ao,sQ1,hfd1⟩
end Go.Proofs.Y
/- Whether a tree is a polynomial. -/
namespace Go.Proofs.Y
open Go Go.Vc Go.Dig
theorem aK2:∀{ts:List Tr},(∀t∈ts,nS t)->tH ts
 | [],_=>by rw[tH];trivial
 | t::ts,h=>by rw[tH];exact⟨h t (bIw ..),aK2 fun u hu=>h u (bIz _ hu)⟩
theorem aNq{p:Prop}[Decidable p](h:dec p=true):p:=by unfold dec at h;exact of_decide_eq_true h
noncomputable instance (t:Tr):Decidable (nS t):=Classical.propDecidable _
attribute [local irreducible] Vc.Fn FnP
theorem aYj:∀(t:Tr) (d:Nat),okT d t->∀(h:aA) (vs:List Value),IsE h vs t->Fn0 T F.q23 [.agg vs.toArray] h fun v h'=>v=.bool (dec (nS t)):=by
 refine eE fun t ih=>?_
 intro d hok h vs w;obtain⟨op,arg,neg,l,m,name,ks⟩:=t;obtain⟨a,b,s,rfl,ho,ha,hv,hb,hk⟩:=w.isK;rw[okT] at hok;have hkl:=hk.len;have hks:ks.length<=3:=by
  have h1:=hok.2.1.1;have h2:=fS op;omega
 obtain⟨B0,hB⟩:=AH (dec (nS (.mk op arg neg l m name ks)));have fT:(1<=op/\op<=7)\/(op=9/\0<=arg)->tH ks->B0=true:=fun x y=>hB.trans (aX (by rw[nS];exact⟨x,y⟩))
 have fA:¬((1<=op/\op<=7)\/(op=9/\0<=arg))->B0=false:=fun x=>hB.trans (aH fun y=>by rw[nS] at y;exact x y.1)
 have fK:∀t∈ks,¬nS t->B0=false:=fun t ht x=>hB.trans (aH fun y=>by rw[nS] at y;exact x (aEx y.2 ht))
 rw[<-hB];clear hB;replace fT:=Hq.mk fT;replace fA:=Hq.mk fA;replace fK:=Hq.mk fK;refine f0C ok D.q23 rfl ?_;conv=>whnf
 repeat ((first|apply oI.z|apply cI.z);conv=>whnf)
 intro be
 repeat' first|(refine cI.stopS 1 ?_)|((first|apply oI.z|apply cI.z);conv=>whnf)
 refine⟨bJ.cut (fun ρ hx Lx=>h.le hx/\Lx=[(be,.cells [.int .i64 op,.int .i64 arg,.bool neg,a.val,b.val,.string (txt name),s.val].toArray Ty.api_Expr (0,0))]/\Hq ((1<=op/\op<=7)\/(op=9/\0<=arg))) ?_ ?_⟩
 .conv=>whnf
  repeat' first|((first|(apply bJ.go)|((first|apply oI.z|apply cI.z))|refine Ld.o 0 rfl rfl ?_)<;>conv=>whnf)|(show cnd _ _ _;first|((first|apply aB|apply aD)<;>intro _<;>first|(exfalso;omega)|conv=>whnf))
  all_goals first
   | exact⟨rfl,Ad,rfl,⟨Aa⟩⟩
   | (have j:=fA.out Aa;exact RN.a (by rw[j]))
 conv=>whnf
 repeat intro _
 rename_i h1 L1 hJ;obtain⟨hle1,rfl,hop⟩:=hJ;have fT2:=fT.out hop.out;clear fA fT;replace fT2:=Hq.mk fT2;conv=>whnf
 repeat ((first|apply oI.z|apply cI.z);conv=>whnf)
 skip
 refine LpN.keepL (fun r ρ hx=>∃j:Nat,r=ks.length-j/\j<=ks.length/\rd ρ 3=.int .i64 j/\Hq (∀u∈ks.take j,nS u)) ks.length ⟨0,rfl,bJe _,rfl,⟨fun u hu=>by rw[bKq] at hu;cases hu⟩⟩ ?_
 conv=>whnf
 repeat intro _
 rename_i r hx hle hI;obtain⟨j,rfl,hj,e3,hq⟩:=hI;conv at e3=>lhs;whnf
 subst e3;have hkx:=hk.mono (aA.lt hle1 hle);by_cases hjl:j=ks.length
 .rw[hjl,bI4] at hq;have hB:=fT2.out (aK2 hq.out);conv=>whnf
  repeat' ((first|((first|apply oI.z|apply cI.z))|refine Ld.o 0 rfl rfl ?_|(apply aB<;>intro _<;>try (exfalso;omega)))<;>conv=>whnf)
  all_goals exact RN.a (by rw[hB])
 .obtain⟨t,ht⟩:∃t,ks[j]?=some t:=⟨_,bIq Aa⟩
  have htm:=bIu ht;have c2:=fun h vs w=>ih t (bD ht) (d+1) (eF hok.2.2 htm) h vs w
  have y1:=fK.out t htm;have y2:nS t->∀u∈ks.take (j+1),nS u:=fun x u hu=>by
   rw[aY ht] at hu;rcases bIx.1 hu with hu|hu
   .exact hq.out u hu
   .rw[bI2] at hu;subst hu;exact x
  obtain⟨D0,hD⟩:=AH (dec (nS t));rw[<-hD] at c2;replace y1:D0=false->B0=false:=fun x=>y1 fun z=>by rw[hD,aX z] at x;cases x
  replace y2:Hq (D0=true->∀u∈ks.take (j+1),nS u):=⟨fun x=>y2 (aNq (by rw[<-hD];exact x))⟩
  clear hD fK fT2 hq ih;replace y1:=Hq.mk y1;conv=>whnf
  repeat' first|((first|(show Idx _ _ _ _ _;refine Idx.kid hkx j t Aa ht (fun ad op3 arg3 neg3 a3 b3 name3 s3 hE hld=>?_))|(refine hld _ _ _ Ad ?_)|((first|apply oI.z|apply cI.z))|(show CN _ _ _ _ _ _;(refine CN.f rfl (c2 _ _ (hE.mono Ad)) (fun v h' hl hr=>?_);subst hr))|refine WN.i64 Aa Aa ?_|refine Ld.o 0 rfl rfl ?_)<;>conv=>whnf)|(show cnd _ _ _;first|(apply aB<;>intro _<;>first|(exfalso;omega)|conv=>whnf)|(refine aI ?_)|(refine bO (fun hb=>?_) (fun hb=>?_)<;>(first|cases hb|subst hb)<;>(conv=>whnf)))
  all_goals first
   | exact⟨rfl,ks.length-(j+1),Aa,Ac,rfl,j+1,rfl,Aa,vi Aa,⟨y2.out rfl⟩⟩
   | (have j:=y1.out rfl;exact RN.a (by rw[j]))
end Go.Proofs.Y
/- The document's formal derivative of a form; the law ExprDerivePoly. -/
namespace Go.Proofs.Y
open Go Go.Vc Go.Dig
theorem Slp.snoc{x:List UInt8}:∀{l:List Tr} {p:Pol} {e:Tr} {t:Mon × Rat},Slp x l p->(∀f,sm f (unP e)=t.2*dn x f t.1)->Slp x (l++[e]) (p++[t])
 | [],[],_,_,_,h=>⟨h,trivial⟩
 | _::_,_::_,_,_,⟨a,b⟩,h=>⟨a,Slp.snoc b h⟩
 | [],_::_,_,_,h,_=>h.elim
 | _::_,[],_,_,h,_=>h.elim
theorem resTs_no:∀{ts:List Tr} (n:Nat),(∀t∈ts,bAy t=none)->bCc n ts=none
 | _,0,_=>by rw[bCc]
 | [],n+1,_=>by rw[bCc]
 | t::ts,n+1,h=>by
  rw[bCc,h t (bIw ..)];dsimp only;rw[resTs_no n fun u hu=>h u (bIz _ hu)]
theorem ply_res:∀t:Tr,nS t->bAy t=none:=by
 refine eE fun t ih=>?_
 intro hp;obtain⟨op,arg,neg,l,m,name,ks⟩:=t;rw[nS] at hp;obtain⟨ho,hk⟩:=hp;rw[bAy,resTs_no _ fun u hu=>by
   obtain⟨j,hj⟩:=List.getElem?_of_mem hu;exact ih u (bD hj) (aEx hk hu)]
 dsimp only;rw[if_neg Aa,if_neg Aa,if_neg Aa,if_neg Aa]
theorem polyX_key{t:Tr}{p:Pol}(h:dM t=.ok p)(hp:nS t):∀u∈p,(∀f∈u.1,Atm f.1)/\sX u.1:=fun u hu=>by
 obtain⟨hv,h2,-⟩:=aYe h;obtain⟨S,-,-,g⟩:=kB t 1 hv.1 h2;have hk:=key_unP t (aG2 hv.1) hp (lf_atm t (aG2 hv.1));rw[aAu t h2] at hk;exact⟨hk u hu,(g.good.red u hu).1⟩
attribute [local irreducible] Vc.Fn FnP
theorem formal_ct(nm:List Nat)(h:aA)(s:Sl)(p:Pol)(w:gJ RmW h s p)(bt:bG1 p)(hk:∀u∈p,(∀f∈u.1,Atm f.1)/\sX u.1):
  Fn0 T F.q26 [s.val,.string (txt nm)] h fun v h'=>∃a ok e,v=.tuple #[a,.bool ok]/\VE h' a e/\(ok=true->∃l,e=sumTr zeroN l/\Slp (b8 nm) l p):=by
 obtain⟨l,e1,r1,t1⟩:=w;have hlen:l.length<=200:=by have:=bt.len;rw[<-e1,bJb] at this;exact this
 have bf:∀x∈l,fits x.q/\x.m.length<=300/\(∀f∈x.m,f.2<=64)/\(∀f∈x.m,Atm f.1)/\sX x.m:=fun x hx=>by
  have hm:pq x∈p:=by rw[<-e1];exact bJg hx
  exact⟨bt.fit _ hm,bt.key _ hm,bt.deg _ hm,hk _ hm⟩
 have hs:s.l=l.length:=by have:=r1.len;rw[bK] at this;omega
 have hpt:p.take l.length=p:=by rw[<-e1,<-bJb (f:=pq),bI4]
 have hps:∀(i:Nat) x,l[i]?=some x->p.take (i+1)=p.take i++[(x.m,x.q)]:=fun i x hx=>aY (by rw[<-e1,bKo,hx];rfl)
 clear bt e1 hk;refine f0C ok D.q26 rfl ?_;conv=>whnf
 repeat ((first|apply oI.z|apply cI.z);conv=>whnf)
 intro b4;conv=>whnf
 repeat' ((first|intro (b6:Nat)|((first|apply oI.z|apply cI.z))|refine Sto.l 0 rfl rfl rfl ?_)<;>conv=>whnf)
 refine LpN.of (fun k ρ hx L=>∃(i:Nat) (ls:List Tr) (Sk:Tr) (op ar:Int) (ng:Bool) (n2 d2:Sl) (na:List Nat) (s2:Sl),k=l.length-i/\h.le hx/\i<=l.length/\L=[(b6,.cells (ex7 op ar ng n2 d2 na s2).toArray Ty.api_Expr (0,0)),(b4,.cells zero7.toArray Ty.api_Expr (0,0))]/\rd ρ 7=.int .i64 i/\IsE hx (ex7 op ar ng n2 d2 na s2) Sk/\Hq (Sk=sumTr zeroN ls/\Slp (b8 nm) ls (p.take i))) l.length
  ⟨0,[],zeroN,1,0,false,⟨none,0,0⟩,⟨none,0,0⟩,[],⟨none,0,0⟩,rfl,Ad,bJe _,rfl,rfl,IsE.num (bV.zero _),⟨rfl,trivial⟩⟩ ?_
 conv=>whnf
 repeat intro _
 rename_i q2 h2 L2 hI;obtain⟨i,ls,Sk,op,ar,ng,n2,d2,na,s2,rfl,hle,hi,rfl,e7,hE,⟨hS⟩⟩:=hI;conv at e7=>lhs;whnf
 subst e7;have r1x:=r1.mono hle;by_cases hil:i=l.length
 .rw[hil,hpt] at hS;replace hS:=Hq.mk hS;conv=>whnf
  repeat' ((first|((first|apply oI.z|apply cI.z))|(show LdN _ _ _ _ _;first|refine LdN.o 0 rfl rfl ?_|refine LdN.o 1 rfl rfl ?_)|refine Sto.l 1 rfl rfl rfl ?_|(apply aB<;>intro _<;>try (exfalso;omega)))<;>conv=>whnf)
  all_goals exact RN.a (R:=fun v h'=>∃a ok e,v=.tuple #[a,.bool ok]/\VE h' a e/\(ok=true->∃l,e=sumTr zeroN l/\Slp (b8 nm) l p)) ⟨_,true,Sk,rfl,⟨op,ar,ng,n2,d2,na,s2,rfl,hE⟩,fun _=>⟨ls,hS.out⟩⟩
 .obtain⟨x,hx⟩:∃t,l[i]?=some t:=⟨_,bIq Aa⟩
  have hxm:=bIu hx;have wx:RmW h2 x:=UpE.up hle (t1 x hxm);obtain⟨fx,kx,dx,ax,cx⟩:=bf x hxm;have cS:=fun h w=>slope_ct nm h x w fx kx dx ax cx
  have hpt1:=hps i x hx;obtain⟨X,hX⟩:=AH x.cells;have hel:∀(h':aA) (L:Vc.Own) (b off:Nat) (k:Value->Prop),aW3 h2 b off x->h2.le h'->k (.agg X.toArray)->LdN h' L ⟨b,off,none⟩ 4 k:=fun h' L b off k w hl hk=>by subst hX;exact LdN.el4 w hl hk
  have cS2:∀h,RmW h x->Fn0 T F.q67 [.agg X.toArray,.string (txt nm)] h fun v h'=>∃a ok e,v=.tuple #[a,.bool ok]/\VE h' a e/\(ok=true->∀f,sm f (unP e)=x.q*dn (b8 nm) f x.m):=fun h w=>by subst hX;exact cS h w
  have c7:=fun h u us w=>lR u h us w
  clear cS hX fx kx dx ax cx;conv=>whnf
  repeat' first|((first|(show Idx _ _ _ _ _;refine Idx.el r1x i x Aa hx (fun ab ao aw=>?_))|(refine hel _ _ _ _ _ aw Ad ?_)|((first|apply oI.z|apply cI.z))|intro (_:Nat)|(show CN _ _ _ _ _ _;first|(refine CN.f rfl (cS2 _ (UpE.up Ad wx)) (fun v h' hl hr=>?_);obtain⟨_,ok8,e8,rfl,⟨op8,ar8,ng8,nn8,dd8,nm8,ss8,rfl,hE8⟩,hu8⟩:=hr)|(refine CN.keep 0 rfl rfl (fun hl5=>?_);refine CN.keep 0 rfl rfl (fun hl6=>?_);have hN:=(IsE.node (op:=5) (arg:=0) ⟨Ae,Ae⟩ ⟨Ae,Ae⟩ (IsK.two (hE.mono Ab) (hE8.mono Ad) rfl rfl hl5)).mono hl6;refine CN.f rfl (c7 _ _ _ hN) (fun v h' hl hr=>?_);subst hr))|refine WN.i64 Aa Aa ?_|(show LdN _ _ _ _ _;first|refine LdN.o 0 rfl rfl ?_|refine LdN.o 1 rfl rfl ?_|refine LdN.o 2 rfl rfl ?_)|(show Sto _ _ _ _;first|refine Sto.l 0 rfl rfl rfl ?_|refine Sto.l 1 rfl rfl rfl ?_|refine Sto.l 2 rfl rfl rfl ?_))<;>conv=>whnf)|(show cnd _ _ _;first|(apply aB<;>intro _<;>first|(exfalso;omega)|conv=>whnf)|(refine aI ?_)|(apply aU<;>intro _<;>first|(exfalso;omega)|conv=>whnf)|(refine bO (fun hb=>?_) (fun hb=>?_)<;>(first|cases hb|subst hb)<;>(conv=>whnf)))
  all_goals first
   | exact⟨rfl,l.length-(i+1),Aa,i+1,ls++[e8],aG 5 0 [Sk,e8],5,0,false,⟨none,0,0⟩,⟨none,0,0⟩,[],⟨some ⟨_,0,none⟩,2,2⟩,rfl,Ac,Aa,rfl,vi Aa,hN.mono Ab,⟨by
       rw[hS.1];unfold sumTr;rw[bNi];rfl,by rw[hpt1];exact Slp.snoc hS.2 (hu8 rfl)⟩⟩
   | exact RN.a (R:=fun v h'=>∃a ok e,v=.tuple #[a,.bool ok]/\VE h' a e/\(ok=true->∃l,e=sumTr zeroN l/\Slp (b8 nm) l p)) ⟨_,false,bI,rfl,VE.zero _,fun x=>by cases x⟩
theorem derX_err{nm:List Nat}{t:Tr}(hv:bB t)(hn:fD nm)(hp:nS t):((bIk nm t).2=0/\key (bIk nm t).1=key (bDq (bDx id nm t)))\/(bIk nm t).2=4:=by
 unfold bIk;rw[if_neg (fun x=>x hv),if_neg (fun x=>x hn),if_neg (fun x=>x (ply_res t hp))]
 unfold mF
 split
 .rename_i hx;exact .inl ⟨rfl,yR hx.1⟩
 .exact .inr rfl
theorem DerivePoly_law(h:aA)(tb:Tb h)(pw:Pw h)(t:Tr)(vs:List Value)(w:IsE h vs t)(sa:ByteArray)(hsa:sa.size<=maxLen):Fn0 T F.q8 [.agg vs.toArray,.string sa] h fun v h'=>v=.bool true:=by
 obtain⟨nm,hla⟩:=AH (rl sa);have hna:∀y∈nm,y<256:=by rw[hla];exact rl_lt sa
 obtain rfl:sa=txt nm:=by rw[hla,txt_rl]
 clear hla hsa;have c0:=fun h w=>lR t h vs w
 have c2:=fun h=>oN h nm hna
 have c9:=fun h tb pw=>uA h tb pw
 by_cases hv:bB t
 rotate_left
 .rw[aH hv] at c0;obtain⟨⟨o1,g1,e1,l1,m1,i1,ks1⟩,ht⟩:=AH t;obtain⟨a1,b1,z1,hvs,-⟩:=(ht.symm▸w:IsE h vs (.mk o1 g1 e1 l1 m1 i1 ks1)).isK;subst hvs;clear ht;refine f0C ok D.q8 rfl ?_;conv=>whnf
  repeat' ((first|(show LdN _ _ _ _ _;refine LdN.oA 0 rfl rfl ?_)|(show CN _ _ _ _ _ _;first|(refine CN.f rfl (c0 _ (w.mono Ad)) (fun v h' hl hr=>?_);subst hr)|(refine CN.f rfl (c9 _ Af (pw.mono Ab)) (fun v h' hl hr=>?_);subst hr))|((first|apply oI.z|apply cI.z))|intro (_:Nat))<;>conv=>whnf)
  all_goals exact RN.a rfl
 have c1:=fun h w=>aYj t 1 hv.1 h vs w
 rw[aX hv] at c0;by_cases hp:nS t
 rotate_left
 .rw[aH hp] at c1;obtain⟨⟨o1,g1,e1,l1,m1,i1,ks1⟩,ht⟩:=AH t;obtain⟨a1,b1,z1,hvs,-⟩:=(ht.symm▸w:IsE h vs (.mk o1 g1 e1 l1 m1 i1 ks1)).isK;subst hvs;clear ht;refine f0C ok D.q8 rfl ?_;conv=>whnf
  repeat' ((first|(show LdN _ _ _ _ _;refine LdN.oA 0 rfl rfl ?_)|(show CN _ _ _ _ _ _;first|(refine CN.f rfl (c0 _ (w.mono Ad)) (fun v h' hl hr=>?_);subst hr)|(refine CN.f rfl (c1 _ (w.mono Ab)) (fun v h' hl hr=>?_);subst hr)|(refine CN.f rfl (c9 _ Af (pw.mono Ac)) (fun v h' hl hr=>?_);subst hr))|((first|apply oI.z|apply cI.z))|intro (_:Nat))<;>conv=>whnf)
  all_goals exact RN.a rfl
 rw[aX hp] at c1;by_cases hn:fD nm
 rotate_left
 .rw[aH hn] at c2;obtain⟨⟨o1,g1,e1,l1,m1,i1,ks1⟩,ht⟩:=AH t;obtain⟨a1,b1,z1,hvs,-⟩:=(ht.symm▸w:IsE h vs (.mk o1 g1 e1 l1 m1 i1 ks1)).isK;subst hvs;clear ht;refine f0C ok D.q8 rfl ?_;conv=>whnf
  repeat' ((first|(show LdN _ _ _ _ _;refine LdN.oA 0 rfl rfl ?_)|(show CN _ _ _ _ _ _;first|(refine CN.f rfl (c0 _ (w.mono Ad)) (fun v h' hl hr=>?_);subst hr)|(refine CN.f rfl (c1 _ (w.mono Ab)) (fun v h' hl hr=>?_);subst hr)|(refine CN.f rfl (c2 _) (fun v h' hl hr=>?_);subst hr)|(refine CN.f rfl (c9 _ Af (pw.mono Ac)) (fun v h' hl hr=>?_);subst hr))|((first|apply oI.z|apply cI.z))|intro (_:Nat))<;>conv=>whnf)
  all_goals exact RN.a rfl
 rw[aX hn] at c2;have c3:=fun h tb pw w=>aHt t h vs tb pw w
 obtain⟨p,e,-,hpe,hpr⟩:=aKw t;have he:e=0->dM t=.ok p:=fun x=>hpe.elim (fun y=>y.1) fun y=>absurd x (aE8 y.2)
 have c4:=fun h tb w=>Derive_ct t nm hna h vs tb w
 have de:=derX_err hv hn hp;obtain⟨⟨Dt,De⟩,hD⟩:=AH (bIk nm t);simp only[<-hD] at c4 de;replace c4:∀h,Tb h->IsE h vs t->Fn0 T F.q25 [.agg vs.toArray,.string (txt nm)] h fun v h'=>∃a,v=.tuple #[a,.int .i64 De]/\VE h' a Dt:=c4
 have c5:∀h s,gJ RmW h s p->e=0->Fn0 T F.q26 [s.val,.string (txt nm)] h fun v h'=>∃a ok e,v=.tuple #[a,.bool ok]/\VE h' a e/\(ok=true->∃l,e=sumTr zeroN l/\Slp (b8 nm) l p):=fun h s w x=>
  formal_ct nm h s p w (aYe (he x)).2.2 (polyX_key (he x) hp)
 have c6:∀h xs ys E,Tb h->Pw h->IsE h xs Dt->IsE h ys E->De=0->e=0->(∃l,E=sumTr zeroN l/\Slp (b8 nm) l p)->Fn0 T F.q11 [.agg xs.toArray,.agg ys.toArray] h fun v h'=>∃(b:Bool) (n:Nat),v=.tuple #[.bool b,.int .i64 n]/\(n=0->b=true):=fun h xs ys E tb pw w1 w2 x1 x2 x3=>by
  refine (eU Dt E h xs ys tb pw w1 w2).mono fun v h' _ r=>⟨_,_,r,fun x=>?_⟩
  obtain⟨q,r,-,-,k1,k2,k3⟩:=rO x;obtain⟨l,rfl,hl⟩:=x3;obtain⟨-,h1,-⟩:=aYe (he x2);have hok:=aG2 hv.1;have hk:key Dt=key (bDq (bDx id nm t)):=by
   rcases de with ⟨-,y⟩|y
   .exact y
   .omega
  have e1:=der_formal hn hok (derI_G hok (smT_res (ply_res t hp))) hp h1 hk k1 hl k2;rw[k3,e1];exact decide_eq_true rfl
 have dz:De=0\/De=4:=de.elim (fun x=>.inl x.1) .inr
 obtain⟨r,hr⟩:=AH (dM t);simp only[<-hr] at c3 hpr;replace c6:=c6;clear hD de hr he hpe hv hp hn;obtain⟨⟨o1,g1,e1,l1,m1,i1,ks1⟩,ht⟩:=AH t;obtain⟨a1,b1,z1,hvs,-⟩:=(ht.symm▸w:IsE h vs (.mk o1 g1 e1 l1 m1 i1 ks1)).isK;subst hvs;clear ht;rcases dz with rfl|rfl
 .refine f0C ok D.q8 rfl ?_;conv=>whnf
  repeat' first|((first|(show LdN _ _ _ _ _;first|refine LdN.oA 0 rfl rfl ?_|refine LdN.oA 1 rfl rfl ?_)|(show CN _ _ _ _ _ _;first|(refine CN.f rfl (c0 _ (w.mono Ad)) (fun v h' hl hr=>?_);subst hr)|(refine CN.f rfl (c1 _ (w.mono Ab)) (fun v h' hl hr=>?_);subst hr)|(refine CN.f rfl (c2 _) (fun v h' hl hr=>?_);subst hr)|(refine CN.f rfl (c3 _ Af (pw.mono Ac) (w.mono Ac)) (fun v h' hl hr=>?_);obtain⟨s1,rfl,w1⟩:=hpr _ _ hr)|(refine CN.f rfl (c4 _ Af (w.mono Ac)) (fun v h' hl2 hr=>?_);obtain⟨_,rfl,op6,ar6,ng6,nn6,dd6,nm6,ss6,rfl,hE6⟩:=hr)|(refine CN.f rfl (c5 _ _ (w1.mono Ab) Aa) (fun v h' hl2 hr=>?_);obtain⟨_,ok7,E7,rfl,⟨op7,ar7,ng7,nn7,dd7,nm7,ss7,rfl,hE7⟩,hf7⟩:=hr)|(refine CN.f rfl (c6 _ _ _ _ Af (pw.mono Ac) (hE6.mono Ab) (hE7.mono Ad) rfl Aa (hf7 rfl)) (fun v h' hl hr=>?_);obtain⟨b8',n8,rfl,hb8⟩:=hr)|(refine CN.f rfl (c9 _ Af (pw.mono Ac)) (fun v h' hl hr=>?_);subst hr))|((first|apply oI.z|apply cI.z))|intro (_:Nat)|refine Sto.l 0 rfl rfl rfl ?_)<;>conv=>whnf)|(show cnd _ _ _;first|(apply aD<;>intro _<;>first|(exfalso;omega)|conv=>whnf)|(refine aI ?_)|(refine bO (fun hb=>?_) (fun hb=>?_)<;>(first|cases hb|subst hb)<;>(conv=>whnf)))
  all_goals first|exact RN.a rfl|exact RN.a (congrArg Value.bool (hb8 Aa))|exact RN.a (congrArg Value.bool (by rw[lF,aX Ae]))
 .refine f0C ok D.q8 rfl ?_;conv=>whnf
  repeat' first|((first|(show LdN _ _ _ _ _;refine LdN.oA 0 rfl rfl ?_)|(show CN _ _ _ _ _ _;first|(refine CN.f rfl (c0 _ (w.mono Ad)) (fun v h' hl hr=>?_);subst hr)|(refine CN.f rfl (c1 _ (w.mono Ab)) (fun v h' hl hr=>?_);subst hr)|(refine CN.f rfl (c2 _) (fun v h' hl hr=>?_);subst hr)|(refine CN.f rfl (c3 _ Af (pw.mono Ac) (w.mono Ac)) (fun v h' hl hr=>?_);obtain⟨s1,rfl,w1⟩:=hpr _ _ hr)|(refine CN.f rfl (c4 _ Af (w.mono Ac)) (fun v h' hl2 hr=>?_);obtain⟨_,rfl,op6,ar6,ng6,nn6,dd6,nm6,ss6,rfl,hE6⟩:=hr)|(refine CN.f rfl (c9 _ Af (pw.mono Ac)) (fun v h' hl hr=>?_);subst hr))|((first|apply oI.z|apply cI.z))|intro (_:Nat)|refine Sto.l 0 rfl rfl rfl ?_)<;>conv=>whnf)|(show cnd _ _ _;first|(apply aD<;>intro _<;>first|(exfalso;omega)|conv=>whnf)|(refine aI ?_))
  all_goals first|exact RN.a rfl|exact RN.a (congrArg Value.bool (by rw[lF,aX Ae]))
end Go.Proofs.Y
set_option maxRecDepth 100000
namespace Go.Proofs.YtblecjeceecaaaaGreatDoor
open Go Go.Proofs.Y Go.Vc Go.Dig Go.ChangeShapes Go.WideShapes Go.ChangeAt Go.RowKit

def zeros:Array Value:=#[gX,.string ByteArray.empty]
theorem tb_laid{W:World}(h:laidMetH Tryz.prog Rows.exprDerivePolyUptoRow.laid W):Tbs (eM W):=
 pZ (l:=Rows.exprDerivePolyUptoRow.laid) (by kernel_rfl) (by kernel_rfl) h
theorem laid_met(os:Os):laidMet Tryz.prog Rows.exprDerivePolyUptoRow.laid ((laidWorldE Rows.exprDerivePolyUptoRow.laid os).forCall (fun _ _=>0) ⟨#[],zeros,[]⟩).memory:=
 laidMet_of_run' 8 (by kernel_rfl) (by kernel_rfl)
theorem reads(os:Os){H:Type}(enc:TypeId × Value->H):∃places,DataW.whole enc Tryz.prog ((laidWorldE Rows.exprDerivePolyUptoRow.laid os).forCall (fun _ _=>0) ⟨#[],zeros,[]⟩).memory Tryz.f8.params.toList Rows.exprDerivePolySpec.vars false zeros.toList 8=some ([zdE,.lit (.string [])],[],places):=
 ⟨[],by kernel_rfl⟩
theorem law_holds(h:aA)(vs:List Value)(tb:Tbs h)(hl:vs.length=([27,9]:List TypeId).length)(hin:∀(j:Nat) t v,([27,9]:List TypeId)[j]?=some t->vs[j]?=some v->In h t v):Fn0 T 8 vs h fun v _=>v=.bool true:=by
 match vs,hl with
 | [v1,v2],_=>
  obtain⟨w1,t1,rfl,i1⟩:=(hin 0 _ _ rfl rfl).tree rfl;obtain⟨s2,rfl,hs2⟩:=(hin 1 _ _ rfl rfl).str rfl;exact DerivePoly_law h tb.tb tb.pw t1 w1 i1 s2 hs2

theorem goods:∀t∈([27,9]:List TypeId),t<Tryz.prog.types.size:=by decide +kernel

theorem liftedUpto(os:Os)(started:os.Started)(H:Type)(enc:TypeId × Value->H)(F:Stop.Interp):
  ReturnsInHanded {} Tryz.checked os 8 .any ((Rows.OpenSpec.upto Rows.exprDerivePolySpec).preRow enc Tryz.prog Tryz.f8 Rows.exprDerivePolyUptoRow.domain false Rows.exprDerivePolyUptoRow.laid) (((Rows.OpenSpec.upto Rows.exprDerivePolySpec).at F).post enc Tryz.prog Tryz.f8 false true false false):=by
 obtain⟨places,hx⟩:=reads os enc;refine returnsInHanded_of_row (C:=Tryz.checked) (s:=Rows.OpenSpec.upto Rows.exprDerivePolySpec) own started (by kernel_rfl) Tryz.func8
  (witness_row_at (enc:=enc) (C:=Tryz.checked) false (laidWorldE Rows.exprDerivePolyUptoRow.laid os) zeros rfl (by kernel_rfl) (by kernel_rfl) (by kernel_rfl)
    (OpenSpec.preRow_of_cond 8 hx (by kernel_rfl) (fun k hk=>by cases hk;kernel_rfl) (by kernel_rfl) (laid_met os))) ?_
 intro W base args ds gs before hval hW _ hcond _ hL _ _;exact iO 8 Tryz.f8 Rows.exprDerivePolySpec Rows.exprDerivePolyUptoRow.laid [27,9] Tryz.params8 (by exact goods) (by kernel_rfl) rfl (fun _ ds h=>match ds,h with|[_,_],_=>rfl) (fun _=>tb_laid) law_holds
  H enc W base args ds gs before hval hW (of_decide_eq_true (hcond _ rfl)) hL

theorem notMain : ¬ Check.packageOf Tryz.f8.name = "main" := by decide +kernel
set_option maxHeartbeats 0 in
theorem facts:joinedFacts Tryz.pinned.checked.prog 8 Tryz.f8 (Rows.OpenSpec.upto Rows.exprDerivePolySpec).bare Rows.exprDerivePolyUptoRow=true:=by
 unfold joinedFacts;simp only[bKr]
 and_intros<;>decide +kernel
theorem named:Tryz.pinned.checked.prog.funcNamed Rows.exprDerivePolyUptoRow.func=some 8:=by kernel_rfl
theorem inst:Tryz.f8.isInstance Tryz.pinned.checked.prog Rows.exprDerivePolyUptoRow.origin Rows.exprDerivePolyUptoRow.targs:=of_decide_eq_true (by kernel_rfl)
theorem wrapper:Tryz.f8.isWrapper Tryz.pinned.checked.prog Rows.exprDerivePolyUptoRow.wrapper Rows.exprDerivePolyUptoRow.mainSum:=by
 unfold Func.isWrapper;rw[if_neg notMain];exact⟨rfl,rfl⟩
theorem saidUpto:Rows.ExprDerivePolyUptoSaid:=
 OpenClaim.holds_of_cond 8 Tryz.f8 rfl rfl rfl rfl rfl rfl rfl ⟨rfl,rfl,rfl,rfl,rfl⟩ rfl rfl rfl rfl rfl named Tryz.func8 facts inst wrapper
  (fun os started H enc _ F=>by rw[OpenClaim.pre_eq_preRow];exact liftedUpto os started H enc F)

theorem plain(f : FuncId)(fn : Func)(hf : Tryz.pinned.checked.prog.funcNamed "inequality/inequalitylaw04.ExprDerivePoly" = some f)(hfn : Tryz.pinned.checked.prog.funcs[f]? = some fn) :
  true=Tryz.pinned.checked.prog.looks []/\∀(j:Nat) t,fn.params[j]?=some t->Tryz.pinned.checked.prog.wantsStandIn t=false:=by
 obtain rfl : f = 8 := Option.some.inj ((show Tryz.prog.funcNamed "inequality/inequalitylaw04.ExprDerivePoly" = some 8 by kernel_rfl).symm.trans hf) |>.symm
 obtain rfl:fn=Tryz.f8:=(Option.some.inj (Tryz.func8.symm.trans hfn)).symm;refine⟨by kernel_rfl,fun j t ht=>?_⟩
 rw[Tryz.params8] at ht;have h1:=Array.mem_of_getElem? ht;simp at h1;rcases h1 with rfl|rfl
 .exact (show Tryz.prog.wantsStandIn 27=false by kernel_rfl)
 .exact (show Tryz.prog.wantsStandIn 9=false by kernel_rfl)

theorem text:Rows.exprDerivePolyUptoRow.wfByText (Rows.OpenSpec.upto Rows.exprDerivePolySpec)=true:=by kernel_rfl
theorem main:Tryz.pinned.checked.prog.mainIs=some (Rows.exprDerivePolyUptoCard.stood.harness.1,Rows.exprDerivePolyUptoCard.stood.harness.2.toList):=by kernel_rfl
theorem goes:false=Rows.exprDerivePolyUptoRow.goesBy Tryz.pinned.checked.prog:=by kernel_rfl
theorem cardUpto:Rows.ExprDerivePolyUptoCardSaid:=
 Claim7.holds_tied_plain_at .later [] _ _ _ _ saidUpto (fun _ h=>by cases h) text (fun _ h=>by cases h) exprDerivePolyUpto_row_tie rfl ⟨rfl,rfl⟩ main rfl plain goes
end Go.Proofs.YtblecjeceecaaaaGreatDoor