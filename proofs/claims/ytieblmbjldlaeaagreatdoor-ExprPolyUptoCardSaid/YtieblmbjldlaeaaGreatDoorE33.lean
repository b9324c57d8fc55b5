/- The reference's side of valid trees: kinds, arguments, nodes. -/
import Derived.Test.YtieblmbjldlaeaaGreatDoorE29
set_option linter.all false
set_option maxHeartbeats 2000000
set_option maxRecDepth 20000
namespace Go.Proofs.Y
open Go Go.Vc Go.Dig
theorem aDo {lo x hi:Int} (h:lo≤x):le x hi=dec (lo≤x∧x≤hi):=by
 unfold le
 rw [iO]
 exact decide_eq_decide.2 ⟨fun y=>⟨h,y⟩,fun y=>y.2⟩
theorem aFc (l:List Nat) (hb:∀y∈l,y<256):seq (txt l) ⟨#[]⟩=dec (l=[]):=by
 by_cases h:l=[]
 ·subst h
  rw [cF rfl]
  unfold seq
  exact beq_self_eq_true _
 ·rw [aK h]
  exact aI4 fun x=>h (yD hb (fun y hy=>by cases hy) x)
theorem aKv {x y:Int}:eq x y=dec (x=y):=by
 unfold eq
 rw [iO]
theorem aKw (h:aA) (op:Int):Fn0 T F.q111 [.int .i64 op] h fun v h'=>h'=h∧v=.int .i64 (cG op):=by
 have k0:op=1∨op=2∨op=3→cG op=0:=fun x=>if_pos x
 have k1:op=4∨op=9∨op=10∨op=11∨op=12→cG op=1:=fun x=>by unfold cG;rw [if_neg (by omega),if_pos x]
 have k2:op=5∨op=6∨op=7∨op=8∨op=13∨op=14→cG op=2:=fun x=>by unfold cG;rw [if_neg (by omega),if_neg (by omega),if_pos x]
 have k3:op=15→cG op=3:=fun x=>by unfold cG;rw [if_neg (by omega),if_neg (by omega),if_neg (by omega),if_pos x]
 have k4:¬(op=1∨op=2∨op=3)→¬(op=4∨op=9∨op=10∨op=11∨op=12)→¬(op=5∨op=6∨op=7∨op=8∨op=13∨op=14)→op≠15→cG op=-1:=fun a b c d=>by unfold cG;rw [if_neg a,if_neg b,if_neg c,if_neg d]
 obtain ⟨K,hK⟩:∃K,K=cG op:=⟨_,rfl⟩
 rw [← hK] at k0 k1 k2 k3 k4 ⊢
 replace k0:=Hq.mk k0
 replace k1:=Hq.mk k1
 replace k2:=Hq.mk k2
 replace k3:=Hq.mk k3
 replace k4:=Hq.mk k4
 refine f0C ok D.q111 rfl ?_
 conv=>whnf
 repeat' first|((first|(apply aX.go)|((first|apply oI.z|apply cI.z))) <;> (conv=>whnf))|(apply aE<;>intro _<;>first|(exfalso;omega)|conv=>whnf)
 all_goals first
  | exact RN.a ⟨rfl,by rw [k0.out (by omega)]⟩
  | exact RN.a ⟨rfl,by rw [k1.out (by omega)]⟩
  | exact RN.a ⟨rfl,by rw [k2.out (by omega)]⟩
  | exact RN.a ⟨rfl,by rw [k3.out (by omega)]⟩
  | exact RN.a ⟨rfl,by rw [k4.out (by omega) (by omega) (by omega) (by omega)]⟩
theorem aOk (h:aA) (op arg:Int) (neg:Bool) (a b s:Sl) (name:ByteArray):
  Fn0 T F.q112 [.agg #[.int .i64 op,.int .i64 arg,.bool neg,a.val,b.val,.string name,s.val]] h fun v h'=>v=.bool (dec (oN op≤arg∧arg≤jL op)):=by
 obtain ⟨R,hR⟩:∃R,R=dec (oN op≤arg∧arg≤jL op):=⟨_,rfl⟩
 have l9:op=9→R=(dec (-32≤arg∧arg≤32)):=fun x=>by rw [hR,x];exact dC Iff.rfl
 have l10:op=10→R=(dec (2≤arg∧arg≤8)):=fun x=>by rw [hR,x];exact dC Iff.rfl
 have l11:op=11→R=(dec (1≤arg∧arg≤8)):=fun x=>by rw [hR,x];exact dC Iff.rfl
 have l0:op≠9→op≠10→op≠11→R=dec (arg=0):=fun x y z=>by
  rw [hR,oN,jL,if_neg x,if_neg y,if_neg z,if_neg x,if_neg y,if_neg z];exact dC ⟨fun u=>by omega,fun u=>by omega⟩
 rw [← hR]
 clear hR
 replace l9:=Hq.mk l9
 replace l10:=Hq.mk l10
 replace l11:=Hq.mk l11
 replace l0:=Hq.mk l0
 refine f0C ok D.q112 rfl ?_
 conv=>whnf
 repeat' first|((first|((first|apply oI.z|apply cI.z))|intro (_:Nat)|refine Ld.o 0 rfl rfl ?_) <;> (conv=>whnf))|(show cnd _ _ _;first|(apply bI<;>intro _<;>first|(exfalso;omega)|conv=>whnf)|(apply aE<;>intro _<;>first|(exfalso;omega)|conv=>whnf))
 all_goals first
  | (refine RN.a ?_;rw [l9.out (by omega)];first|exact congrArg Value.bool (aDo (by omega))|(rw [aK (fun u=>by omega)];done))
  | (refine RN.a ?_;rw [l10.out (by omega)];first|exact congrArg Value.bool (aDo (by omega))|(rw [aK (fun u=>by omega)];done))
  | (refine RN.a ?_;rw [l11.out (by omega)];first|exact congrArg Value.bool (aDo (by omega))|(rw [aK (fun u=>by omega)];done))
  | (refine RN.a ?_;rw [l0.out (by omega) (by omega) (by omega)];exact congrArg Value.bool aKv)
theorem aKx (h:aA) (neg:Bool) (a b:Sl) (l m:List Nat) (hv:cB h a b l m):Fn0 T F.q114 [.agg #[.bool neg,a.val,b.val]] h fun v h'=>v=.bool (dec (evl 4294967296 l=0)):=by
 have i1:=hv.num
 have l1:=hv.ln
 have l3:=hv.sn
 obtain ⟨x,hx⟩:∃x,x=evl 4294967296 l:=⟨_,rfl⟩
 have hz:=aW (b:=65536) (n:=x) (by omega)
 rw [← hx]
 refine f0C ok D.q114 rfl ?_
 conv=>whnf
 repeat' first|((first|(show CN _ _ _ _ _ _;(refine CN.f rfl (mQ _ _ l (by assumption) l1 (by omega)) (fun v h' hl hr=>?_);rw [← hx] at hr;obtain ⟨s',rfl,hs'⟩:=hr;have hxl:=hs'.len))|((first|apply oI.z|apply cI.z))|intro (_:Nat)|refine Ld.o 0 rfl rfl ?_) <;> (conv=>whnf))
 refine RN.a ?_
 congr 1
 unfold eq
 rw [iO]
 refine decide_eq_decide.2 ?_
 rw [← hz,hxl];omega
theorem aKy (h:aA) (op arg:Int) (neg:Bool) (a b:Sl) (l m name:List Nat) (s:Sl) (n:Nat) (hv:cB h a b l m) (hb:∀y∈name,y<256) (hs:s.l=n):
  Fn0 T F.q63 [.agg #[.int .i64 op,.int .i64 arg,.bool neg,a.val,b.val,.string (txt name),s.val]] h fun v h'=>v=.bool (dec (cX op arg neg l m name n)):=by
 obtain ⟨DD,hD⟩:∃DD,DD=dec (cX op arg neg l m name n):=⟨_,rfl⟩
 obtain ⟨KN,hK⟩:∃K,K=cG op:=⟨_,rfl⟩
 obtain ⟨LO,hL⟩:∃K,K=oN op:=⟨_,rfl⟩
 obtain ⟨HI,hH⟩:∃K,K=jL op:=⟨_,rfl⟩
 have n1:(n:Int)≠KN→DD=false:=fun x=>by rw [hD];exact aK fun y=>x (by rw [hK];exact y.1)
 have n2:¬(LO≤arg∧arg≤HI)→DD=false:=fun x=>by rw [hD];exact aK fun y=>x (by rw [hL,hH];exact ⟨y.2.1,y.2.2.1⟩)
 have ar:LO≤arg∧arg≤HI→oN op≤arg∧arg≤jL op:=fun x=>by rw [hL,hH] at x;exact x
 have p1:(n:Int)=KN→LO≤arg∧arg≤HI→op=1→DD=dec (okR neg l m∧0≤aR neg l m∧name=[]):=fun x y z=>by
  rw [hD];refine dC ⟨fun q=>?_,fun q=>⟨by omega,(ar y).1,(ar y).2,?_,?_⟩⟩
  ·have q1:=q.2.2.2.1
   have q2:=q.2.2.2.2
   rw [if_neg (by omega)] at q1
   rw [if_pos z] at q2
   exact ⟨q2.1,q2.2,q1⟩
  ·rw [if_neg (by omega)];exact q.2.2
  ·rw [if_pos z];exact ⟨q.1,q.2.1⟩
 have p2:(n:Int)=KN→LO≤arg∧arg≤HI→op≠1→¬evl 4294967296 l=0→DD=false:=fun x y z u=>by
  rw [hD];exact aK fun q=>u (by have:=q.2.2.2.2;rw [if_neg z] at this;exact this)
 have p3:(n:Int)=KN→LO≤arg∧arg≤HI→op=2→evl 4294967296 l=0→DD=dec (gH name):=fun x y z u=>by
  rw [hD];refine dC ⟨fun q=>?_,fun q=>⟨by omega,(ar y).1,(ar y).2,?_,?_⟩⟩
  ·have:=q.2.2.2.1;rw [if_pos z] at this;exact this
  ·rw [if_pos z];exact q
  ·rw [if_neg (by omega)];exact u
 have p4:(n:Int)=KN→LO≤arg∧arg≤HI→op≠1→op≠2→evl 4294967296 l=0→DD=dec (name=[]):=fun x y z t u=>by
  rw [hD];refine dC ⟨fun q=>?_,fun q=>⟨by omega,(ar y).1,(ar y).2,?_,?_⟩⟩
  ·have:=q.2.2.2.1;rw [if_neg t] at this;exact this
  ·rw [if_neg t];exact q
  ·rw [if_neg z];exact u
 have c0:=fun h=>aKw h op
 have c1:=fun h=>aOk h op arg neg a b s (txt name)
 rw [← hK] at c0
 rw [← hL,← hH] at c1
 rw [← hD]
 clear hD hK hL hH ar
 have lsg:=aEq (aR neg l m)
 have hsz:=(aAy (neg:=neg) hv).mono (show 2147483649≤1099511627776 by decide)
 have c2:=fun h hv=>aIs h neg a b l m hv
 have c3:=fun h hv=>oG h neg a b l m hv
 have c4:=fun h hv=>aKx h neg a b l m hv
 have c5:=fun h=>rR h name hb
 obtain ⟨q,hq⟩:∃q,q=aR neg l m:=⟨_,rfl⟩
 obtain ⟨OK,hOK⟩:∃q,q=okR neg l m:=⟨_,rfl⟩
 obtain ⟨Z,hZ⟩:∃q,q=(evl 4294967296 l=0):=⟨_,rfl⟩
 rw [← hq] at p1 lsg hsz c3
 have sg1:0≤fI q↔0≤q:=by
  have x:=lsg
  unfold le at x
  rw [iO] at x
  exact decide_eq_decide.1 x
 replace sg1:=Hq.mk sg1
 replace n1:=Hq.mk n1
 replace n2:=Hq.mk n2
 replace p1:=Hq.mk p1
 replace p2:=Hq.mk p2
 replace p3:=Hq.mk p3
 replace p4:=Hq.mk p4
 refine f0C ok D.q63 rfl ?_
 conv=>whnf
 repeat' first|((first|(show DrN _ _ _ _ _ _;refine DrN.each (by decide +kernel) ?_)|(show CN _ _ _ _ _ _;first|refine CN.quiet rfl (c0 _) ?_|(refine CN.f rfl (c1 _) (fun v h' hl2 hr=>?_);subst hr)|(refine CN.f rfl (c2 _ (by (iterate 30 try first|assumption|refine cB.mono ?_ (by assumption));first|done|assumption)) (fun v h' hl2 hr=>?_);subst hr)|(refine CN.f rfl (c3 _ (by (iterate 30 try first|assumption|refine cB.mono ?_ (by assumption));first|done|assumption)) (fun v h' hl2 hr=>?_);obtain ⟨a',b',rfl,hq'⟩:=hr)|refine CN.quiet rfl (aEf _ _ _ q (by assumption) hsz) ?_|(refine CN.f rfl (c4 _ (by (iterate 30 try first|assumption|refine cB.mono ?_ (by assumption));first|done|assumption)) (fun v h' hl2 hr=>?_);subst hr)|(refine CN.f rfl (c5 _) (fun v h' hl2 hr=>?_);subst hr))|(show LdN _ _ _ _ _;(first|refine LdN.o 0 rfl rfl ?_|refine LdN.oA 0 rfl rfl ?_))|((first|apply oI.z|apply cI.z))|refine ⟨fun _=>aH.o (aA.lr _),?_⟩|refine ⟨fun _=>aH.o (by assumption),?_⟩|intro (_:Nat)|refine Ld.o 0 rfl rfl ?_) <;> (conv=>whnf))|(show cnd _ _ _;first|(apply bI<;>intro _<;>first|(exfalso;omega)|conv=>whnf)|(apply aE<;>intro _<;>first|(exfalso;omega)|conv=>whnf)|(refine aI ?_)|(apply bJ<;>intro _<;>first|(exfalso;omega)|conv=>whnf))|(refine oX.mk ?_ ?_ <;> (conv=>whnf))
 all_goals first
  | (rw [n1.out (by omega)];exact RN.a rfl)
  | (rw [n2.out (by assumption)];exact RN.a rfl)
  | (rw [p2.out (by omega) (by assumption) (by omega) (by assumption)];exact RN.a rfl)
  | (rw [p3.out (by omega) (by assumption) (by omega) (by assumption)];exact RN.a rfl)
  | (rw [p4.out (by omega) (by assumption) (by omega) (by omega) (by assumption)];exact RN.a (congrArg Value.bool (aFc name hb)))
  | (rw [p1.out (by omega) (by assumption) (by omega),aK (fun u=>absurd u.1 (by assumption))];exact RN.a rfl)
  | (rw [p1.out (by omega) (by assumption) (by omega),aK (fun u=>by have:=sg1.out.2 u.2.1;omega)];exact RN.a rfl)
  | (rw [p1.out (by omega) (by assumption) (by omega),dC (q:=name=[]) (Iff.intro (fun u=>u.2.2) (fun u=>And.intro (by assumption) (And.intro (sg1.out.1 (by omega)) u)))];exact RN.a (congrArg Value.bool (aFc name hb)))
  | skip
end Go.Proofs.Y
/- The reference's walk over a tree, and Valid. -/
namespace Go.Proofs.Y
open Go Go.Vc Go.Dig
def mI (d n:Nat) (t:Tr):Int:=if okT d t∧szT t≤n then (n:Int)-(szT t:Nat) else -1
theorem uI (d n:Nat) (t:Tr):mI d n t<0↔¬(okT d t∧szT t≤n):=by
 unfold mI
 split
 ·rename_i x;exact ⟨fun y=>by have:=x.2;omega,fun y=>absurd x y⟩
 ·rename_i x;exact ⟨fun _=>x,fun _=>by omega⟩
theorem aKz:∀t:Tr,∀(h:aA) (vs:List Value) (d n:Nat),IsE h vs t→n≤300→d≤1000→Fn0 T F.q32 [.agg vs.toArray,.int .i64 d,.int .i64 n] h fun v h'=>v=.int .i64 (mI d n t):=by
 refine iM fun t ih=>?_
 intro h vs d n w hn hd
 obtain ⟨op,arg,neg,l,m,name,ks⟩:=t
 obtain ⟨a,b,s,rfl,ho,ha,hv,hb,hk⟩:=w.isK
 have c1:=fun h hv=>aKy h op arg neg a b l m name s ks.length hv hb hk.len
 have f1:n=0→mI d n (.mk op arg neg l m name ks)=-1:=fun x=>if_neg fun y=>by
  have:=y.2
  rw [szT] at this;omega
 have f2:d>30→mI d n (.mk op arg neg l m name ks)=-1:=fun x=>if_neg fun y=>by
  have:=y.1
  rw [okT] at this;omega
 have f3:¬cX op arg neg l m name ks.length→mI d n (.mk op arg neg l m name ks)=-1:=fun x=>if_neg fun y=>by
  have:=y.1
  rw [okT] at this;exact x this.2.1
 have f4:∀j c t,ks[j]?=some t→c+1+fM (ks.take j)=n→mI (d+1) c t<0→mI d n (.mk op arg neg l m name ks)=-1:=fun j c t ht hc x=>if_neg fun y=>by
  obtain ⟨y1,y2⟩:=y
  rw [okT] at y1
  rw [szT] at y2
  have e:=nL ht
  rw [e,iK,fM] at y2
  have z:=y1.2.2
  rw [e,iL,fN] at z
  exact (uI _ _ _).1 x ⟨z.2.1,by omega⟩
 have f5:d≤30→cX op arg neg l m name ks.length→fN (d+1) ks→∀c,c+1+fM ks=n→mI d n (.mk op arg neg l m name ks)=c:=fun x y z c u=>by
  unfold mI
  rw [if_pos (show okT d (.mk op arg neg l m name ks)∧szT (.mk op arg neg l m name ks)≤n from ⟨by rw [okT];exact ⟨x,y,z⟩,by rw [szT];omega⟩),szT];omega
 obtain ⟨R,hR⟩:∃R,R=mI d n (.mk op arg neg l m name ks):=⟨_,rfl⟩
 rw [← hR] at f1 f2 f3 f4 f5 ⊢
 have hkl:=hk.len
 refine f0C ok D.q32 rfl ?_
 conv=>whnf
 repeat' first|((first|(show CN _ _ _ _ _ _;(refine CN.f rfl (c1 _ (by assumption)) (fun v h' hl2 hr=>?_);subst hr))|((first|apply oI.z|apply cI.z))|intro (_:Nat)|refine WN.i64 (by omega) (by omega) ?_|refine LdN.o 0 rfl rfl ?_) <;> (conv=>whnf))|(show cnd _ _ _;first|(apply aB<;>intro _<;>first|(exfalso;omega)|conv=>whnf)|(apply bI<;>intro _<;>first|(exfalso;omega)|conv=>whnf)|(refine aI ?_)|(apply bJ<;>intro _<;>first|(exfalso;omega)|conv=>whnf))
 ·rw [f2 (by omega)];exact RN.a rfl
 ·rw [f1 (by omega)];exact RN.a rfl
 ·rename_i be x1 x2 x3
  have hd30:d≤30:=by omega
  have hNBt:cX op arg neg l m name ks.length:=by assumption
  replace f5:=f5 hd30 hNBt
  have hks:ks.length≤3:=by
   have h1:=hNBt.1
   have h2:=fD op
   omega
  clear f1 f2 f3
  have hle0:h.le h':=by assumption
  refine LpN.of (fun r ρ hx L=>∃(j c:Nat),r=ks.length-j∧h.le hx∧j≤ks.length∧rd ρ 7=.int .i64 j∧rd ρ 2=.int .i64 c∧
      L=[(be,.cells [.int .i64 op,.int .i64 arg,.bool neg,a.val,b.val,.string (txt name),s.val].toArray Ty.api_Expr (0,0))]∧c≤300∧c+1+fM (ks.take j)=n∧Hq (fN (d+1) (ks.take j))) ks.length
   ⟨0,n-1,rfl,hle0,aWe _,rfl,vi (by omega),rfl,by omega,by rw [List.take_zero,fM];omega,⟨by rw [List.take_zero,fN];trivial⟩⟩ ?_
  conv=>whnf
  repeat intro _
  rename_i r hx L2 hI
  obtain ⟨j,c,rfl,hle,hj,e7,e2,rfl,hc3,hc,hq⟩:=hI
  conv at e7=>lhs;whnf
  subst e7
  conv at e2=>lhs;whnf
  subst e2
  by_cases hjl:j=ks.length
  ·subst hjl
   rw [aV4] at hc hq
   rw [f5 hq.out c hc]
   conv=>whnf
   repeat' first|((first|((first|apply oI.z|apply cI.z))|refine Ld.o 0 rfl rfl ?_) <;> (conv=>whnf))|(apply aB<;>intro _<;>first|(exfalso;omega)|conv=>whnf)
   exact RN.a rfl
  ·obtain ⟨t,ht⟩:∃t,ks[j]?=some t:=⟨_,aVq (by omega)⟩
   have c2:=fun h vs w=>ih t (dB ht) h vs (d+1) c w hc3 (by omega)
   have f4:=f4 j c t ht hc
   have hc4:¬mI (d+1) c t<0→fN (d+1) (ks.take (j+1))∧∃c':Nat,mI (d+1) c t=c'∧c'≤300∧c'+1+fM (ks.take (j+1))=n:=fun x=>by
    have y:okT (d+1) t∧szT t≤c:=Decidable.not_not.1 fun z=>x ((uI _ _ _).2 z)
    rw [aZ ht,iL,iK,fN,fM,fM,fN]
    refine ⟨⟨hq.out,y.1,trivial⟩,c-szT t,?_,by omega,by omega⟩
    unfold mI
    rw [if_pos y];omega
   obtain ⟨C,hC⟩:∃C,C=mI (d+1) c t:=⟨_,rfl⟩
   rw [← hC] at c2 f4 hc4
   replace hc4:=Hq.mk hc4
   have hkx:=hk.mono hle
   conv=>whnf
   repeat' first|((first|(show Idx _ _ _ _ _;refine Idx.kid hkx j t (by omega) ht (fun ad op2 arg2 neg2 a2 b2 name2 s2 hE hld=>?_))|refine hld _ _ _ (aA.lr _) ?_|((first|apply oI.z|apply cI.z))|(show CN _ _ _ _ _ _;(refine CN.f rfl (c2 _ _ (by assumption)) (fun v h' hl2 hr=>?_);subst hr))|refine WN.i64 (by omega) (by omega) ?_|refine Ld.o 0 rfl rfl ?_) <;> (conv=>whnf))|(apply aB<;>intro _<;>first|(exfalso;omega)|conv=>whnf)
   ·rw [f4 (by omega)];exact RN.a rfl
   ·obtain ⟨x1,c',x2,x3,x4⟩:=hc4.out (by omega)
    exact ⟨rfl,ks.length-(j+1),by omega,j+1,c',rfl,(by (iterate 30 try first|assumption|refine aA.lt ?_ (by assumption));first|done|assumption),by omega,vi (by omega),vi (by omega),rfl,x3,x4,⟨x1⟩⟩
 ·rw [f3 (by assumption)];exact RN.a rfl
theorem aK0 (t:Tr):0≤mI 1 300 t↔dJ t:=by
 have:=uI 1 300 t
 unfold dJ
 constructor
 ·intro x
  exact Decidable.not_not.1 fun z=>by have:=this.2 z;omega
 ·intro x
  have:¬mI 1 300 t<0:=fun y=>this.1 y x
  omega
theorem aHc (t:Tr) (h:aA) (vs:List Value) (w:IsE h vs t):Fn0 T F.q14 [.agg vs.toArray] h fun v h'=>v=.bool (dec (dJ t)):=by
 have hv:=aK0 t
 have c1:=fun h w=>aKz t h vs 1 300 w (by omega) (by omega)
 obtain ⟨C,hC⟩:∃C,C=mI 1 300 t:=⟨_,rfl⟩
 rw [← hC] at c1 hv
 obtain ⟨⟨op,arg,neg,l,m,name,ks⟩,ht⟩:∃u,u=t:=⟨_,rfl⟩
 obtain ⟨a,b,s,hvs,-⟩:=(ht.symm▸w:IsE h vs (.mk op arg neg l m name ks)).isK
 subst hvs
 refine f0C ok D.q14 rfl ?_
 conv=>whnf
 repeat' first|((first|(show CN _ _ _ _ _ _;(refine CN.f rfl (c1 _ (by assumption)) (fun v h' hl2 hr=>?_);subst hr))|((first|apply oI.z|apply cI.z))|intro (_:Nat)|refine LdN.o 0 rfl rfl ?_) <;> (conv=>whnf))
 refine RN.a ?_
 congr 1
 unfold le
 rw [iO]
 refine decide_eq_decide.2 ?_
 rw [← hv]
end Go.Proofs.Y
/- Equal trees: plain; the reference's Same, the program's equal. -/
namespace Go.Proofs.Y
open Go Go.Vc Go.Dig
mutual
def aK1:Tr→Tr→Bool
 | .mk op arg neg l m name ks,.mk op' arg' neg' l' m' name' ks'=>decide (op=op'∧arg=arg'∧name=name'∧aR neg l m=aR neg' l' m') && aK2 ks ks'
def aK2:List Tr→List Tr→Bool
 | [],[]=>true
 | [],_::_=>false
 | _::_,[]=>false
 | t::ts,u::us=>aK1 t u && aK2 ts us
end
theorem aHd {neg:Bool} {l m:List Nat} (h:evl 4294967296 l=0):aR neg l m=0:=by
 unfold aR
 rw [h,tI]
theorem aOl {op arg:Int} {neg:Bool} {l m name:List Nat} {n:Nat} (h:cX op arg neg l m name n):Sz 64 (aR neg l m):=by
 have h4:=h.2.2.2.2
 by_cases ho:op=1
 ·rw [if_pos ho] at h4;exact okR.sz h4.1
 ·rw [if_neg ho] at h4
  rw [aHd h4];exact aEh 63
theorem aK3 (h:aA) (n1:Bool) (a1 b1:Sl) (l1 m1:List Nat) (n2:Bool) (a2 b2:Sl) (l2 m2:List Nat) (hv1:cB h a1 b1 l1 m1) (hv2:cB h a2 b2 l2 m2) (z1:Sz 64 (aR n1 l1 m1)) (z2:Sz 64 (aR n2 l2 m2)):
  Fn0 T F.q23 [.agg #[.bool n1,a1.val,b1.val],.agg #[.bool n2,a2.val,b2.val]] h fun v h'=>v=.bool (dec (aR n1 l1 m1=aR n2 l2 m2)):=by
 have c1:=fun h hv1=>oG h n1 a1 b1 l1 m1 hv1
 have c2:=fun h hv2=>oG h n2 a2 b2 l2 m2 hv2
 obtain ⟨q,hq⟩:∃q,q=aR n1 l1 m1:=⟨_,rfl⟩
 obtain ⟨r,hr⟩:∃r,r=aR n2 l2 m2:=⟨_,rfl⟩
 rw [← hq] at c1 z1 ⊢
 rw [← hr] at c2 z2 ⊢
 have y1:Sr 65536 q:=(Sr.of z1).mono (by decide)
 have y2:Sr 65536 r:=(Sr.of z2).mono (by decide)
 have e:=aMu (q:=q) (r:=r)
 refine f0C ok D.q23 rfl ?_
 conv=>whnf
 repeat' first|((first|(show DrN _ _ _ _ _ _;refine DrN.each (by decide +kernel) ?_)|(show CN _ _ _ _ _ _;first|(refine CN.f rfl (c1 _ (by assumption)) (fun v h' hl hr=>?_);obtain ⟨x1,x2,rfl,g1⟩:=hr)|(refine CN.f rfl (c2 _ (by (iterate 30 try first|assumption|refine cB.mono ?_ (by assumption));first|done|assumption)) (fun v h' hl hr=>?_);obtain ⟨x3,x4,rfl,g2⟩:=hr)|(refine CN.f rfl (aM0 _ _ _ _ _ q r (by (iterate 30 try first|assumption|refine IsQ.mono ?_ (by assumption));first|done|assumption) (by assumption) y1 y2) (fun v h' hl hr=>?_);subst hr))|((first|apply oI.z|apply cI.z))|refine ⟨fun _=>aH.o (aA.lr _),?_⟩|refine ⟨fun _=>aH.o (by assumption),?_⟩|intro (_:Nat)|(show LdN _ _ _ _ _;first|refine LdN.o 0 rfl rfl ?_|refine LdN.o 1 rfl rfl ?_)) <;> (conv=>whnf))|(refine oX.mk ?_ ?_ <;> (conv=>whnf))
 all_goals exact RN.a (by congr 1;unfold eq;rw [iO];exact decide_eq_decide.2 e)
def eqX (t u:Tr):Bool × Int:=if dJ t∧dJ u then (aK1 t u,0) else (false,40)
attribute [local irreducible] Vc.Fn
end Go.Proofs.Y
/- Trees with numbers (aBn): equal trees have equal aBn; copies keep them; nodes replaced. -/
namespace Go.Proofs.Y
open Go Go.Vc Go.Dig
inductive Kt where
 | mk (op arg:Int) (q:Rat) (name:List Nat) (kids:List Kt)
mutual
def key:Tr→Kt
 | .mk op arg neg l m name ks=>.mk op arg (aR neg l m) name (aBn ks)
def aBn:List Tr→List Kt
 | []=>[]
 | t::ts=>key t::aBn ts
end

mutual
def aHe (g:Tr→Option Tr):Tr→Tr
 | .mk op arg neg l m name ks=>match g (.mk op arg neg l m name ks) with
  | some u=>u
  | none=>.mk op arg neg l m name (aPd g ks)
def aPd (g:Tr→Option Tr):List Tr→List Tr
 | []=>[]
 | t::ts=>aHe g t::aPd g ts
end
mutual
def okG:Tr→Prop
 | .mk op arg neg l m name ks=>cX op arg neg l m name ks.length∧aSk ks
def aSk:List Tr→Prop
 | []=>True
 | t::ts=>okG t∧aSk ts
end
end Go.Proofs.Y