/- Numbers and trees copied: the law's own functions. -/
import Derived.Test.YtdccpmlhflpeaaaGreatDoorPT2
import Derived.Test.YtdccpmlhflpeaaaGreatDoorTD0
import Derived.Test.YtdccpmlhflpeaaaGreatDoorFrT
import Derived.Test.YtdccpmlhflpeaaaGreatDoorE86
set_option linter.all false
set_option maxHeartbeats 8000000
set_option maxRecDepth 20000
namespace Go.Vc
open Go Go.Dig
end Go.Vc
namespace Go.Proofs.YtdccpmlhflpeaaaGreatDoor
open Go Go.Proofs.Y Go.Vc Go.Dig
attribute [local irreducible] Vc.Fn
end Go.Proofs.YtdccpmlhflpeaaaGreatDoor
/- Values with raw numbers: in memory, in rows of the call's own; equal raw numbers are the same. -/
namespace Go.Vc
open Go Go.Dig
end Go.Vc
namespace Go.Proofs.YtdccpmlhflpeaaaGreatDoor
open Go Go.Proofs.Y Go.Vc Go.Dig
abbrev VW:=List Nat × Bool × List Nat × List Nat
def xI(h:aA)(a b:Sl)(u:VW):Prop:=bJ h a b u.2.2.1 u.2.2.2/\u.2.2.1.length<=1048576/\u.2.2.2.length<=1048576
theorem xI.mono{h h':aA}{a b:Sl}{u:VW}(w:xI h a b u)(hl:h.le h'):xI h' a b u:=⟨w.1.mono hl,w.2⟩
def qM(h:aA)(c:Array Value):Nat->List VW->Prop
 | _,[]=>True
 | off,u::us=>(c[off]?=some (.string (txt u.1))/\(∀y∈u.1,y<256)/\∃a b:Sl,(∀i v,[Value.bool u.2.1,a.val,b.val][i]?=some v->c[off+1+i]?=some v)/\xI h a b u)/\qM h c (off+4) us
structure IsW (h:aA) (s:Sl) (us:List VW):Prop where
 len:s.l=us.length
 cap:s.l<=s.c
 mem:us=[]\/∃bl off c T fz,s.a=some ⟨bl,off,none⟩/\h bl=some (.cells c T fz)/\qM h c off us
theorem qM.up{h h':aA}(hl:h.le h'){c:Array Value}:∀{us:List VW} {off:Nat},qM h c off us->qM h' c off us
 | [],_,_=>trivial
 | _::_,_,⟨⟨h1,h2,a,b,h4,h5⟩,r⟩=>⟨⟨h1,h2,a,b,h4,h5.mono hl⟩,qM.up hl r⟩
theorem IsW.mono{h h':aA}{s:Sl}{us:List VW}(w:IsW h s us)(hl:h.le h'):IsW h' s us:=
 ⟨w.len,w.cap,w.mem.elim .inl fun ⟨bl,off,c,T,fz,k1,k2,k3⟩=>.inr ⟨bl,off,c,T,fz,k1,hl _ _ k2,qM.up hl k3⟩⟩
theorem qM.get{h:aA}{c:Array Value}:∀{us:List VW} {off j:Nat} {u:VW},qM h c off us->us[j]?=some u->
  c[off+j*4]?=some (.string (txt u.1))/\(∀y∈u.1,y<256)/\∃a b:Sl,(∀i v,[Value.bool u.2.1,a.val,b.val][i]?=some v->c[off+j*4+1+i]?=some v)/\xI h a b u
 | [],_,_,_,_,e=>by simp at e
 | u'::us,off,0,u,w,e=>by
  simp at e;subst e;rw[bEv,bEh];exact w.1
 | u'::us,off,j+1,u,w,e=>by
  have:=qM.get (j:=j) w.2 (by simpa using e);rw[show off+4+j*4=off+(j+1)*4 by omega] at this
  exact this
theorem Idx.valw{h:aA}{s:Sl}{us:List VW}(w:IsW h s us){i:Int}{k:Addr->Prop}(j:Nat)(u:VW)(hi:i=j)(ht:us[j]?=some u)
  (hk:∀(bl off:Nat) (a b:Sl),(∀y∈u.1,y<256)->xI h a b u->
    (∀h' L,h.le h'->Has h' L ⟨bl,off,none⟩ (.string (txt u.1)))->(∀h' L (i:Nat) v,h.le h'->[Value.bool u.2.1,a.val,b.val][i]?=some v->Has h' L ⟨bl,off+1+i,none⟩ v)->k ⟨bl,off,none⟩):Idx s.a i s.l 4 k:=by
 obtain⟨hj,-⟩:=bC9.1 ht;rcases w.mem with e|⟨bl,off,c,T,fz,e1,e2,e3⟩
 .subst e;simp at ht
 .obtain⟨g1,g2,a,b,h2,h3⟩:=qM.get e3 ht;refine Idx.of j e1 hi (by rw[w.len];exact hj) ?_;exact hk bl (off+j*4) a b g2 h3 (fun h' L hl=>Has.imm (hl _ _ e2) g1) fun h' L i v hl hv=>Has.imm (hl _ _ e2) (h2 i v hv)
def vwV(us:List VW):List (List Nat × Option Rat):=us.map fun u=>(u.1,jS u.2.1 u.2.2.1 u.2.2.2)
theorem qM.isvs{h:aA}{c:Array Value}:∀{us:List VW} {off:Nat},qM h c off us->tP h c off (vwV us)
 | [],_,_=>trivial
 | _::_,_,⟨⟨h1,h2,a,b,h4,h5⟩,r⟩=>⟨⟨h1,h2,_,a,b,h4,h5.1.num'⟩,qM.isvs r⟩
theorem IsW.isv{h:aA}{s:Sl}{us:List VW}(w:IsW h s us):IsV h s (vwV us):=
 ⟨by unfold vwV;rw[bDt];exact w.len,w.cap,w.mem.elim (fun e=>.inl (by rw[e];rfl)) fun ⟨bl,off,c,T,fz,k1,k2,k3⟩=>.inr ⟨bl,off,c,T,fz,k1,k2,k3.isvs⟩⟩
theorem aC2{h:aA}{a b:Sl}{u:VW}(w:xI h a b u):Sr 2097153 (aN u.2.1 u.2.2.1 u.2.2.2):=by
 have h1:=nH w.1.ln;have h2:=nH w.1.lm;have h3:=w.2.1;have h4:=w.2.2;have h5:=aF1 u.2.1 u.2.2.1 u.2.2.2;have h6:=jW 65536 tlb;refine⟨bDv (dH tlb h5.1) Aa,bDv (dH tlb h5.2) ?_⟩
 split<;>omega
theorem bCj(h:aA)(a b c d:Sl)(q:Rat)(hq:IsQ h a b q)(hr:IsQ h c d q)(hs:Sr 2097153 q):
  Fn0 T F.q15 [.agg #[.bool (sg q),a.val,b.val],.agg #[.bool (sg q),c.val,d.val]] h fun v _=>v=.int .i64 0:=by
 have y1:Sr 1073741824 q:=hs.mono Ad;have y3:Sr 1099511627776 (q-q):=by rw[bFq];exact (tB hs (Sr.neg hs)).mono Ad
 have e:dS (q-q)=0:=by rw[Rat.sub_self];unfold dS;exact if_pos (by unfold nu;simp)
 refine f0C ok D.q15 rfl ?_;conv=>whnf
 repeat' ((first|(show CN _ _ _ _ _ _;first|(refine CN.f rfl (aU5 _ _ _ _ _ _ _ Ab Ab y1 y1) (fun v h' hl hr=>?_);obtain⟨e1,e2,rfl,hq'⟩:=hr)|refine CN.quiet rfl (aXz _ _ _ _ Ab y3) ?_)|((first|apply oI.z|apply cI.z))|intro (_:Nat)|(show LdN _ _ _ _ _;first|refine LdN.o 0 rfl rfl ?_|refine LdN.o 1 rfl rfl ?_))<;>conv=>whnf)
 exact RN.a (by rw[e])
end Go.Proofs.YtdccpmlhflpeaaaGreatDoor
/- Derivatives of a polynomial tree, their values, and the value at a shifted point: plain mathematics. -/
namespace Go.Proofs.YtdccpmlhflpeaaaGreatDoor
open Go Go.Proofs.Y Go.Vc Go.Dig
/-! polynomial trees stay so -/
theorem aE7:∀{a:Tr},aZ a->aZ (xE a)
 | .mk _ _ _ _ _ _ [],h=>h
 | .mk _ _ _ _ _ _ (_::_),h=>by rw[aZ,bK] at h;exact h.2.1
theorem aH0{e a:Tr}(he:aZ e)(ha:aZ a):aZ (lS e a):=by
 unfold lS
 split
 .exact nN _
 .split
  .exact aE7 ha
  .exact he
theorem aUd{e a b:Tr}{op:Int}(h:op=5\/op=6\/op=7)(he:aZ e)(ha:aZ a)(hb:aZ b):aZ (oX e op a b):=by
 have h0:∀q,aZ (mkL q):=nN
 have hs:aZ (aF 6 0 [a,xE b]):=lW (.inl Ad) ha (aE7 hb);have hd:aZ (aF 5 0 [a,xE b]):=lW (.inl Ad) ha (aE7 hb);have hn:aZ (lS (aF 4 0 [b]) b):=aH0 (aEx (.inl Ad) hb) hb;unfold oX
 split
 .exact h0 _
 .unfold uU wM uV aZm
  repeat' split
  all_goals first|assumption|exact h0 _|(exfalso;omega)
theorem aUe{e a:Tr}{arg:Int}(he:aZ e)(ha:aZ a):aZ (mX e arg a):=by
 have h0:∀q,aZ (mkL q):=nN
 unfold mX
 repeat' split
 all_goals first|assumption|exact h0 _
theorem aC3:∀ks:List Tr,cK ks=ks.map eA
 | []=>rfl
 | t::ts=>by rw[cK,aC3 ts];rfl
theorem aPa{op arg:Int}{e:Tr}{xs:List Tr}(ho:(1<=op/\op<=7/\op≠3)\/(op=9/\0<=arg))(he:aZ e)(hx:bK xs):aZ (rL op arg e xs):=by
 match xs,hx with
 | [],_=>exact he
 | [a],hx=>
  rw[bK] at hx;unfold rL;dsimp only
  split
  .exact aH0 he hx.1
  split
  .exact aUe he hx.1
  .exact he
 | [a,b],hx=>
  rw[bK,bK] at hx;unfold rL;dsimp only
  split
  .exact aUd Aa he hx.1 hx.2.1
  .exact he
 | _::_::_::_,_=>exact he
theorem aXr:∀t:Tr,aZ t->aZ (eA t):=by
 refine bN fun t ih=>?_
 intro hp;obtain⟨op,arg,neg,l,m,name,ks⟩:=t;rw[aZ] at hp;have hk:bK (cK ks):=aA2 fun u hu=>by
  rw[aC3] at hu;obtain⟨v,hv,rfl⟩:=List.mem_map.1 hu;obtain⟨j,hj⟩:=List.getElem?_of_mem hv;exact ih v (aP hj) (iE hp.2 hv)
 rw[eA];exact aPa hp.1 (by rw[aZ];exact⟨hp.1,hk⟩) hk
mutual
theorem aE8:∀{t u:Tr},key t=key u->aZ t->aZ u
 | .mk op arg neg l m name ks,.mk op' arg' neg' l' m' name' ks',e,h=>by
  rw[key,key,Kt.mk.injEq] at e;obtain⟨rfl,rfl,e3,rfl,e5⟩:=e;rw[aZ] at h ⊢;exact⟨h.1,aC4 e5 h.2⟩
theorem aC4:∀{ts us:List Tr},gI ts=gI us->bK ts->bK us
 | [],us,e,h=>by rw[pA e];exact h
 | t::ts,us,e,h=>by
  obtain⟨u,us',rfl,e1,e2⟩:=mG e;rw[bK] at h ⊢;exact⟨aE8 e1 h.1,aC4 e2 h.2⟩
end
theorem aH1:∀{ts:List Tr} (n:Nat),(∀t∈ts,qJ t=none)->mS n ts=none
 | _,0,_=>by rw[mS]
 | [],n+1,_=>by rw[mS]
 | t::ts,n+1,h=>by
  rw[mS,h t (bDe ..)];dsimp only;rw[aH1 n fun u hu=>h u (bDh _ hu)]
theorem aE9:∀t:Tr,aZ t->qJ t=none:=by
 refine bN fun t ih=>?_
 intro hp;obtain⟨op,arg,neg,l,m,name,ks⟩:=t;rw[aZ] at hp;obtain⟨ho,hk⟩:=hp;rw[qJ,aH1 _ fun u hu=>by
   obtain⟨j,hj⟩:=List.getElem?_of_mem hu;exact ih u (aP hj) (iE hk hu)]
 dsimp only;rw[if_neg Aa,if_neg Aa,if_neg Aa,if_neg Aa]
theorem aXs{nm:List Nat}{t d:Tr}(hn:fE nm)(hp:aZ t)(h:aOj nm t=(d,0)):key d=key (eA (eS id nm t)):=by
 unfold aOj at h;by_cases hv:dN t
 rotate_left
 .rw[if_pos hv] at h;cases h
 rw[if_neg (not_not_intro hv),if_neg (not_not_intro hn),if_neg (not_not_intro (aE9 t hp))] at h;unfold qE at h
 split at h
 .rename_i hx;cases h;exact wG hx.1
 .cases h
/-! the point, and the shifted one -/
def aH2(q:Rat):Option Rat:=if fits q then some q else none
def qW(u:VW):Rat:=aN u.2.1 u.2.2.1 u.2.2.2
def shW(nm:List Nat)(H:Rat)(u:VW):List Nat × Option Rat:=(u.1,if u.1=nm then aH2 (qW u+H) else jS u.2.1 u.2.2.1 u.2.2.2)
def mU(nm:List Nat)(H:Rat)(us:List VW):List (List Nat × Option Rat):=us.map (shW nm H)
theorem aMi{u:VW}(h:(jS u.2.1 u.2.2.1 u.2.2.2).isSome=true):jS u.2.1 u.2.2.1 u.2.2.2=some (qW u)/\fits (qW u):=by
 unfold jS at h ⊢
 split at h
 .rename_i k;rw[if_pos k];exact⟨rfl,k.2.2⟩
 .cases h
theorem aC5{q:Rat}(h:(aH2 q).isSome=true):aH2 q=some q/\fits q:=by
 unfold aH2 at h ⊢
 split at h
 .rename_i k;rw[if_pos k];exact⟨rfl,k⟩
 .cases h
theorem aH3{nm:List Nat}{H:Rat}{n:List Nat}:∀{us:List VW},jR (vwV us)->jR (mU nm H us)->jV (cF (mU nm H us)) n=(jV (cF (vwV us)) n).map fun q=>if n=nm then q+H else q
 | [],_,_=>rfl
 | u::us,h1,h2=>by
  have g1:=(aMi (u:=u) (h1 _ (bDe ..))).1;have ih:=aH3 (nm:=nm) (H:=H) (n:=n) (us:=us) (fun b hb=>h1 b (bDh _ hb)) (fun b hb=>h2 b (bDh _ hb))
  have g2:(shW nm H u).2.isSome=true:=h2 _ (bDe ..);show (if u.1=n then some ((shW nm H u).2.getD 0) else jV (cF (mU nm H us)) n)=(if u.1=n then some ((jS u.2.1 u.2.2.1 u.2.2.2).getD 0) else jV (cF (vwV us)) n).map _
  rw[g1]
  split
  .rename_i e;subst e;show some ((if u.1=nm then aH2 (qW u+H) else jS u.2.1 u.2.2.1 u.2.2.2).getD 0)=some (if u.1=nm then qW u+H else qW u)
   unfold shW at g2;dsimp only at g2
   split
   .rename_i e;rw[if_pos e] at g2;rw[(aC5 g2).1];rfl
   .rw[g1];rfl
  .exact ih
theorem aUf{nm:List Nat}{H:Rat}{us:List VW}(h1:jR (vwV us))(h2:jR (mU nm H us)){u:VW}(hu:u∈us)(e:u.1=nm):Sr 257 H:=by
 have g1:=(aMi (u:=u) (h1 _ (bDy hu))).2;have g2:(shW nm H u).2.isSome=true:=h2 _ (bDy hu);unfold shW at g2;dsimp only at g2;rw[if_pos e] at g2;have g3:=(aC5 g2).2;have:H=(qW u+H)-qW u:=by rw[bHl,Rat.add_sub_cancel]
 rw[this,bFq];exact tB (pZ g3) (Sr.neg (pZ g1))
/-! the way from derivative to derivative -/
theorem aH4{al be:List UInt8->Rat}:∀{m:Mon},(∀f∈m,al f.1=be f.1)->ph al m=ph be m
 | [],_=>rfl
 | t::m,h=>by rw[fF,fF,h t (bDe ..),aH4 fun f hf=>h f (bDh _ hf)]
def alV(vals:List (List Nat × Rat))(s:List UInt8):Rat:=(jV vals (s.map UInt8.toNat)).getD 0
theorem aFa{vals:List (List Nat × Rat)}{n:List Nat}(hn:fE n){x:Rat}(hx:jV vals n=some x):alV vals (b8 n)=x:=by
 unfold alV;rw[aAt (aCm hn),hx];rfl
theorem aUg{al:List UInt8->Rat}{a:Pol}(ha:Mok al a):∀n:Nat,sm (ph al) (dW a n)=sm (ph al) a^n/\Mok al (dW a n)
 | 0=>⟨by show 1*1+0=_;rw[bF2,bF7,bFs],aE6 1⟩
 | n+1=>by
  obtain⟨h1,h2⟩:=aUg ha n;show sm (ph al) (aV (tmL (dW a n) a))=_/\Mok al (aV (tmL (dW a n) a));exact⟨by rw[bG,aSv h2 ha,h1,bGb],iM (Q:=Aok al) (aSu h2 ha)⟩
theorem aMj(vals:List (List Nat × Rat)):∀t:Tr,okG t->aZ t->∀v,dP vals t=some v->sm (ph (alV vals)) (unP t)=v/\Mok (alV vals) (unP t):=by
 refine bN fun t ih=>?_
 intro hok hp v hv;obtain⟨op,arg,neg,l,m,name,ks⟩:=t;rw[okG] at hok;rw[aZ] at hp;obtain⟨hnb,hks⟩:=hok;obtain⟨hop,hpk⟩:=hp;have hn1:=hnb.1;by_cases h1:op=1
 .subst h1;rw[aSt] at hv;cases hv;rw[vA];exact⟨by rw[eK];show _*1=_;rw[bF7],aMg _⟩
 by_cases h2:op=2
 .subst h2;have hnm:=hnb.2.2.2.1;rw[if_pos rfl] at hnm;rw[dP,if_neg Ad,if_pos rfl] at hv;rw[unP,aEr h1 Aa,show aK (.mk 2 arg neg l m name ks)=name by rw[aK];rfl]
  refine⟨?_,fun t ht f hf=>?_⟩
  .show 1*(alV vals (b8 name)^1*1)+0=v
   rw[bGb,bF2,bEt,bF7,bEt,bFs,aFa hnm hv]
  .rw[bDk] at ht;subst ht;rw[bDk] at hf;subst hf;exact .inl (by unfold nmA;rw[aAt (aCm hnm)];exact hnm)
 have h3:op≠1/\op≠2/\op≠3:=⟨h1,h2,Aa⟩;by_cases hone:op=4\/op=9
 .obtain⟨k,rfl⟩:=aEm hn1 (by unfold aR;rcases hone with rfl|rfl<;>rfl);rw[cA] at hks;rw[bK] at hpk;rw[aGx h3] at hv;obtain⟨x,hx,hv⟩:=Option.bind_eq_some_iff.1 hv;obtain⟨g1,g2⟩:=ih k (aP (j:=0) rfl) hks.1 hpk.1 x hx;rcases hone with rfl|rfl
  .rw[aWs] at hv;rw[iF,pX,g1];exact⟨lU hv,iM (Q:=Aok _) (aJs _ (fun t ht=>by simp at ht) g2)⟩
  .have ha:0<=arg:=Aa;rw[aWt,if_neg Aa] at hv;have hq:=lU hv;unfold kR at hq;rw[if_neg Aa] at hq;rw[pW ha];obtain⟨p1,p2⟩:=aUg g2 arg.natAbs;exact⟨by rw[p1,g1,<-hq,show arg.natAbs=arg.toNat by omega],p2⟩
 .obtain⟨k,k',rfl⟩:=aJt hn1 (by unfold aR;rw[if_neg Aa,if_neg Aa,if_pos Aa]);rw[cA,cA] at hks;rw[bK,bK] at hpk;rw[aGy h3] at hv;obtain⟨x,hx,hv⟩:=Option.bind_eq_some_iff.1 hv;obtain⟨y,hy,hv⟩:=Option.bind_eq_some_iff.1 hv;obtain⟨g1,g2⟩:=ih k (aP (j:=0) rfl) hks.1 hpk.1 x hx;obtain⟨e1,e2⟩:=ih k' (aP (j:=1) rfl) hks.2.1 hpk.2.1 y hy;have h57:op=5\/op=6\/op=7:=Aa;unfold biQ at hv;rcases h57 with rfl|rfl|rfl
  .rw[if_pos rfl] at hv;rw[lV,bG,lC,g1,e1,bEt];exact⟨lU hv,iM (Q:=Aok _) (aJs _ g2 e2)⟩
  .rw[if_neg Ad,if_pos rfl] at hv;rw[nM,bG,lC,g1,e1,bH4,bEt,<-bFq];exact⟨lU hv,iM (Q:=Aok _) (aJs _ g2 e2)⟩
  .rw[if_neg Ad,if_neg Ad,if_pos rfl] at hv;rw[kJ,bG,aSv g2 e2,g1,e1];exact⟨lU hv,iM (Q:=Aok _) (aSu g2 e2)⟩
theorem sI{bs:List (List Nat × Option Rat)}{t:Tr}{v:Rat}(h:lX bs t=(v,true,0)):dN t/\jQ bs/\jR bs/\dP (cF bs) t=some v:=by
 obtain⟨a,b,c⟩:=aT6 (bs:=bs) (t:=t) (by rw[h]);rw[aXm a b c] at h;exact⟨a,b,c,aO6 h⟩
structure Way (nm:List Nat) (us:List VW) (H:Rat) (t:Tr) (W:Rat) (n:Nat) (d:Tr) (S C:Rat):Prop where
 ply:aZ d
 fst:n=0->key d=key t
 pol:∀f,sm f (unP d)=sm (dI (b8 nm) f n) (unP t)
 sum:S=sn (fun k=>co H k*sm (dI (b8 nm) (ph (alV (cF (vwV us)))) k) (unP t)) n
 fac:C=co H n
 srS:Sr (128+n*28300) S
 srC:Sr (128+n*400) C
 old:0<n->Sr 257 H/\tQ (Bnd (cF (vwV us))) (unP t)/\jR (vwV us)/\sm (ph (alV (cF (mU nm H us)))) (unP t)=W
theorem aUh{nm:List Nat}{us:List VW}{H W:Rat}{t d:Tr}(hp:aZ t)(e:key d=key t):Way nm us H t W 0 d 0 1:=
 ⟨aE8 e.symm hp,fun _=>e,fun f=>by rw[aAv d t e];rfl,rfl,rfl,(pZ eV).mono Ad,(pZ fL).mono Ad,fun h=>absurd h Ad⟩
theorem aXt{k l:Nat}{q r:Rat}(a:Sr k q)(b:Sr l r)(hk:1<=k+l):Sr (k+l) (q / r):=by
 by_cases h0:nu r=0
 .have e:r=0:=gU.1 h0;rw[e,bHu,Rat.inv_zero,bFn];exact⟨by rw[show nu 0=0 from by decide +kernel,(aT tlb).2 rfl];omega,by rw[show (0:Rat).den=1 from by decide +kernel,jW _ tlb];omega⟩
 .rw[bHu];exact vY a (aYr b h0)
theorem aMk{n:Nat}(h:n<65536):Sr 1 ((n:Int):Rat):=by
 refine⟨?_,?_⟩
 .rw[zA];exact (aL tlb (k:=1)).2 (by show n<65536^1;omega)
 .rw[uA,jW _ tlb];decide
section
variable {nm:List Nat} {us:List VW} {H W:Rat} {t:Tr} {n:Nat} {d:Tr} {S C:Rat}
theorem Way.far(w:Way nm us H t W n d S C)(hf:lX (mU nm H us) t=(W,true,0)){p:Pol}(hp:lM d=.ok p):sm (ph (alV (cF (mU nm H us)))) (unP t)=W:=by
 by_cases h0:n=0
 .have e:=w.fst h0;obtain⟨v1,-⟩:=vI hp;obtain⟨-,-,-,x4⟩:=sI hf;rw[<-aAv d t e];exact (aMj _ d (rG v1.1) w.ply _ (by rw[aHd e];exact x4)).1
 .exact (w.old Aa).2.2.2
theorem Way.done(w:Way nm us H t W n d S C)(hn:fE nm)(hf:lX (mU nm H us) t=(W,true,0))(hp:lM d=.ok []):S=W:=by
 have g:=w.far hf hp;obtain⟨-,p1⟩:=vI hp;have hu:unP d=[]:=aW0 d p1;have he:∀f,sm (dI (b8 nm) f n) (unP t)=0:=fun f=>by rw[<-w.pol f,hu];rfl
 by_cases h0:n=0
 .have e:=w.fst h0;rw[<-g,w.sum,h0,<-aAv d t e,hu];rfl
 .obtain⟨-,k1,k2,-⟩:=w.old Aa;rw[<-g,w.sum,aJ9 (b8 nm) _ H (aW2 (tN t)) he];obtain⟨-,-,x3,-⟩:=sI hf;refine dO fun u hu=>?_
  have:∀f∈u.1,alS (b8 nm) (alV (cF (vwV us))) H f.1=alV (cF (mU nm H us)) f.1:=fun f hf=>by
   obtain⟨m,x,hm,em,fm⟩:=k1 u hu f hf;have ff:=aH3 (nm:=nm) (H:=H) (n:=m) k2 x3;rw[fm] at ff;rw[em,aFa (x:=if m=nm then x+H else x) hm ff]
   unfold alS;rw[aFa hm fm];by_cases e:m=nm
   .rw[if_pos (by rw[e]),if_pos e]
   .rw[if_neg fun x=>e (aTd (aCm hm) (aCm hn) x),if_neg e]
  exact aH4 this
theorem Way.next(w:Way nm us H t W n d S C)(hn:fE nm)(hv2:∀b∈cF (vwV us),fits b.2)(hf:lX (mU nm H us) t=(W,true,0)){u0:VW}(hu0:u0∈us)(hu1:u0.1=nm){p:Pol}(hp:lM d=.ok p){v:Rat}(hx:lX (vwV us) d=(v,true,0)){d':Tr}(hd:aOj nm d=(d',0))(h70:n<70):
  Way nm us H t W (n+1) d' (S+v*C) (C*H / (((n+1:Nat):Int):Rat)):=by
 obtain⟨v1,-⟩:=vI hp;obtain⟨-,-,x3,x4⟩:=sI hx;obtain⟨-,-,y3,-⟩:=sI hf;have hH:=aUf x3 y3 hu0 hu1;have hok:=rG v1.1;have hk:=aXs hn w.ply hd;obtain⟨hD,hP⟩:=aTe hn d hok w.ply;have hg:=aS4 (nm:=nm) hok (aEo (aE9 d w.ply));have fv:fits v:=aCg hv2 d 1 v1.1 v x4;have c1:=vY (pZ fv) w.srC;have c2:=vY w.srC hH;have c3:=aXt c2 (aMk (n:=n+1) Aa) Aa;have c4:=tB w.srS c1;refine⟨aE8 hk.symm (aXr _ hP),fun h=>absurd h Aa,fun f=>?_,?_,?_,c4.mono Aa,c3.mono Aa,fun _=>⟨hH,?_,x3,w.far hf hp⟩⟩
 .rw[aAv d' _ hk,bAe _ hg hP,hD.2.2,w.pol,show n+1=1+n by omega,aJ7];rfl
 .rw[sn,<-w.sum,<-w.fac,<-w.pol,(aMj _ d hok w.ply _ x4).1,bFp]
 .rw[co,<-w.fac];rfl
 .by_cases h0:n=0
  .have e:=w.fst h0;rw[<-aAv d t e];exact aXo d hok w.ply (bA8 _ d hok w.ply v x4)
  .exact (w.old Aa).2.1
end
end Go.Proofs.YtdccpmlhflpeaaaGreatDoor
/- The law TopDerives: its small functions. -/
namespace Go.Proofs.YtdccpmlhflpeaaaGreatDoor
open Go Go.Proofs.Y Go.Vc Go.Dig
attribute [local irreducible] Vc.Fn FnP
theorem aPb(h:aA)(tb:Tb h):Fn0 T F.q7 [] h fun v h'=>v=.bool true:=by
 have c1:=fun h tb=>aK5 h tb aGe Ad (by rw[aCa];exact aV6)
 rw[aJa] at c1;replace c1:∀h,Tb h->Fn0 T F.q12 [.string (txt aGe)] h fun v h'=>∃a,v=.tuple #[a,.int .i64 (0:Nat),.int .i64 (0:Nat)]/\VE h' a wY:=c1
 refine f0C ok D.q7 rfl ?_;conv=>whnf
 repeat' ((first|(show CN _ _ _ _ _ _;(refine CN.f rfl (c1 _ tb) (fun v h' hl hr=>?_);obtain⟨_,rfl,op,ar,ng,nn,dd,nm,ss,rfl,hE⟩:=hr;obtain⟨rfl,rfl,rfl,hv0,hnm,hb0,hks⟩:=IsE.inv hE;have hkl:=hks.len;rw[show [aK9,tE [120]].length=2 from rfl] at hkl))|(show Idx _ _ _ _ _;(refine Idx.kidC hks 1 (tE [120]) rfl rfl (fun ad vs hE1 hld=>?_);obtain⟨va,vb,vss,rfl,-⟩:=(hE1:IsE _ _ (.mk 2 0 false [] [] [120] [])).isK))|(show Ld _ _ _ _;first|refine Ld.of (hld _ _ 5 (aA.lr _) Ad) ?_|refine Ld.o 0 rfl rfl ?_)|((first|apply oI.z|apply cI.z))|intro (_:Nat)|refine Sto.l 0 rfl rfl rfl ?_|(apply aD<;>intro _<;>try (exfalso;omega)))<;>conv=>whnf)
 refine RN.a ?_
 congr 1
 unfold seq;exact beq_self_eq_true _
noncomputable instance (t:Tr):Decidable (aZ t):=Classical.propDecidable _
theorem aUi:∀(t:Tr) (d:Nat),okT d t->∀(h:aA) (vs:List Value),IsE h vs t->Fn0 T F.q5 [.agg vs.toArray] h fun v h'=>v=.bool (dec (aZ t)):=by
 refine bN fun t ih=>?_
 intro d hok h vs w;obtain⟨op,arg,neg,l,m,name,ks⟩:=t;obtain⟨a,b,s,rfl,ho,ha,hv,hb,hk⟩:=w.isK;rw[okT] at hok;have hkl:=hk.len;have hks:ks.length<=3:=by
  have h1:=hok.2.1.1;have h2:=mN op;omega
 obtain⟨B0,hB⟩:=AB (dec (aZ (.mk op arg neg l m name ks)));have fT:((1<=op/\op<=7/\op≠3)\/(op=9/\0<=arg))->bK ks->B0=true:=fun x y=>hB.trans (bA (by rw[aZ];exact⟨x,y⟩))
 have fA:¬((1<=op/\op<=7/\op≠3)\/(op=9/\0<=arg))->B0=false:=fun x=>hB.trans (aG fun y=>by rw[aZ] at y;exact x y.1)
 have fK:∀t∈ks,¬aZ t->B0=false:=fun t ht x=>hB.trans (aG fun y=>by rw[aZ] at y;exact x (iE y.2 ht))
 rw[<-hB];clear hB;replace fT:=Hq.mk fT;replace fA:=Hq.mk fA;replace fK:=Hq.mk fK;refine f0C ok D.q5 rfl ?_;conv=>whnf
 repeat ((first|apply oI.z|apply cI.z);conv=>whnf)
 intro be
 repeat' first|(refine cI.stopS 1 ?_)|((first|apply oI.z|apply cI.z);conv=>whnf)
 refine⟨aQ.cut (fun ρ hx Lx=>h.le hx/\Lx=[(be,.cells [.int .i64 op,.int .i64 arg,.bool neg,a.val,b.val,.string (txt name),s.val].toArray Ty.api_Expr (0,0))]/\Hq ((1<=op/\op<=7/\op≠3)\/(op=9/\0<=arg))) ?_ ?_⟩
 .conv=>whnf
  repeat' first|((first|(apply aQ.go)|((first|apply oI.z|apply cI.z))|refine Ld.o 0 rfl rfl ?_)<;>conv=>whnf)|(show cnd _ _ _;first|((first|apply aB|apply aD)<;>intro _<;>first|(exfalso;omega)|conv=>whnf))
  all_goals first
   | exact⟨rfl,Af,rfl,⟨Aa⟩⟩
   | (have j:=fA.out Aa;exact RN.a (by rw[j]))
 conv=>whnf
 repeat intro _
 rename_i h1 L1 hJ;obtain⟨hle1,rfl,hop⟩:=hJ;have fT2:=fT.out hop.out;clear fA fT;replace fT2:=Hq.mk fT2;conv=>whnf
 repeat ((first|apply oI.z|apply cI.z);conv=>whnf)
 skip
 refine LpN.keepL (fun r ρ hx=>∃j:Nat,r=ks.length-j/\j<=ks.length/\rd ρ 3=.int .i64 j/\Hq (∀u∈ks.take j,aZ u)) ks.length ⟨0,rfl,bDw _,rfl,⟨fun u hu=>by rw[bFa] at hu;cases hu⟩⟩ ?_
 conv=>whnf
 repeat intro _
 rename_i r hx hle hI;obtain⟨j,rfl,hj,e3,hq⟩:=hI;conv at e3=>lhs;whnf
 subst e3;have hkx:=hk.mono (aA.lt hle1 hle);by_cases hjl:j=ks.length
 .rw[hjl,bDm] at hq;have hB:=fT2.out (aA2 hq.out);conv=>whnf
  repeat' ((first|((first|apply oI.z|apply cI.z))|refine Ld.o 0 rfl rfl ?_|(apply aB<;>intro _<;>try (exfalso;omega)))<;>conv=>whnf)
  all_goals exact RN.a (by rw[hB])
 .obtain⟨t,ht⟩:∃t,ks[j]?=some t:=⟨_,bC8 Aa⟩
  have htm:=bDc ht;have c2:=fun h vs w=>ih t (aP ht) (d+1) (fC hok.2.2 htm) h vs w
  have y1:=fK.out t htm;have y2:aZ t->∀u∈ks.take (j+1),aZ u:=fun x u hu=>by
   rw[bD ht] at hu;rcases bDf.1 hu with hu|hu
   .exact hq.out u hu
   .rw[bDk] at hu;subst hu;exact x
  obtain⟨D0,hD⟩:=AB (dec (aZ t));rw[<-hD] at c2;replace y1:D0=false->B0=false:=fun x=>y1 fun z=>by rw[hD,bA z] at x;cases x
  replace y2:Hq (D0=true->∀u∈ks.take (j+1),aZ u):=⟨fun x=>y2 (aT8 (by rw[<-hD];exact x))⟩
  clear hD fK fT2 hq ih;replace y1:=Hq.mk y1;conv=>whnf
  repeat' first|((first|(show Idx _ _ _ _ _;refine Idx.kid hkx j t Aa ht (fun ad op3 arg3 neg3 a3 b3 name3 s3 hE hld=>?_))|(refine hld _ _ _ Af ?_)|((first|apply oI.z|apply cI.z))|(show CN _ _ _ _ _ _;(refine CN.f rfl (c2 _ _ (hE.mono Af)) (fun v h' hl hr=>?_);subst hr))|refine WN.i64 Aa Aa ?_|refine Ld.o 0 rfl rfl ?_)<;>conv=>whnf)|(show cnd _ _ _;first|(apply aB<;>intro _<;>first|(exfalso;omega)|conv=>whnf)|(refine aJ ?_)|(refine dE (fun hb=>?_) (fun hb=>?_)<;>(first|cases hb|subst hb)<;>(conv=>whnf)))
  all_goals first
   | exact⟨rfl,ks.length-(j+1),Aa,Ac,rfl,j+1,rfl,Aa,vi Aa,⟨y2.out rfl⟩⟩
   | (have j:=y1.out rfl;exact RN.a (by rw[j]))
/-! rows of values of the call's own -/
def VN(h:aA):List Value->List (List Nat × Option Rat)->Prop
 | xs,[]=>xs=[]
 | xs,u::us=>∃ng,∃(a b:Sl) (ys:List Value),xs=[.string (txt u.1),.bool ng,a.val,b.val]++ys/\(∀y∈u.1,y<256)/\cR h ng a b u.2/\VN h ys us
theorem VN.mono{h h':aA}(hl:h.le h'):∀{us:List (List Nat × Option Rat)} {xs:List Value},VN h xs us->VN h' xs us
 | [],_,e=>e
 | _::_,_,⟨n,a,b,ys,e,b1,i,r⟩=>⟨n,a,b,ys,e,b1,i.mono hl,VN.mono hl r⟩
theorem VN.snoc{h:aA}{u:List Nat × Option Rat}{ng:Bool}{a b:Sl}(hb:∀y∈u.1,y<256)(i:cR h ng a b u.2):∀{us:List (List Nat × Option Rat)} {xs:List Value},VN h xs us->VN h (xs++[.string (txt u.1),.bool ng,a.val,b.val]) (us++[u])
 | [],_,e=>⟨ng,a,b,[],by rw[show _=[] from e];rfl,hb,i,rfl⟩
 | _::_,_,⟨n',a',b',ys,e,b1,j,r⟩=>⟨n',a',b',ys++[.string (txt u.1),.bool ng,a.val,b.val],by rw[e,bDb],b1,j,VN.snoc hb i r⟩
theorem VN.isvs{h:aA}{c:Array Value}:∀{us:List (List Nat × Option Rat)} {xs:List Value} {off:Nat},VN h xs us->(∀i,i<xs.length->c[off+i]?=xs[i]?)->tP h c off us
 | [],_,_,_,_=>trivial
 | u::us,xs,off,⟨n,a,b,ys,e,b1,j,r⟩,g=>by
  subst e;refine⟨⟨?_,b1,n,a,b,fun i v hi=>?_,j⟩,VN.isvs r fun i hi=>?_⟩
  .have:=g 0 Ao
   rwa [bEh] at this
  .have hl:=(bC9.1 hi).1;have hl:i<3:=hl;have:=g (1+i) Aq;rw[<-bE4] at this;rw[this,show 1+i=i+1 by omega,bEn,bGc,<-hi]
   exact bDi hl
  .have:=g (4+i) Aq;rw[<-bE4] at this;rw[this,bDs Ao];simp
theorem RN.rowN{e:TypeId}{v w:Value}{n:Nat}{xs:List Value}{acc:List (List Nat × Option Rat)}{h:aA}{X tl:Vc.Own}{R:Value->aA->Prop}(g:aE e 4 v n xs X)(k:VN h xs acc)(hn:n=acc.length)
  (hk:∀h' (s:Sl),h.le h'->v=s.val->IsV h' s acc->R w h'):RN w h (X++tl) fun v h' L'=>L'=[]/\R v h':=by
 obtain⟨g1,⟨rfl,rfl⟩|⟨i,b,cap,zs,rfl,h2,h3,h4⟩⟩:=g
 .obtain rfl:acc=[]:=bD7.1 hn.symm;exact RN.a (hk h ⟨none,0,0⟩ (aA.lr _) rfl ⟨rfl,bDx _,.inl rfl⟩)
 .have hlt:=(bC9.1 h2).1;refine RN.keep i (by rw[bDi hlt];exact h2) fun hle=>?_
  refine RN.a (hk _ ⟨some ⟨b,0,none⟩,n,cap⟩ hle rfl ⟨hn,h3,.inr ⟨b,0,(xs++zs).toArray,e,(0,0),rfl,by simp[aA.put],VN.isvs (k.mono hle) fun i hi=>?_⟩⟩)
  rw[bDu,bD1,bDi hi]
def aH5(us:List VW)(nm:List Nat):Prop:=∃u∈us,u.1=nm
noncomputable instance (us:List VW) (nm:List Nat):Decidable (aH5 us nm):=Classical.propDecidable _
theorem bCk{k:Nat}{q:Rat}(s:Sr k q):Sz k q:=
 ⟨(aL tlB).2 (bD9 ((aL tlb).1 s.num) (bGf Ad _)),(aL tlB).2 (bD9 ((aL tlb).1 s.den) (bGf Ad _))⟩
theorem aPc{h:aA}{a b:Sl}{q:Rat}(w:fP h a b q)(s:Sr 1073741824 q):cR h (sg q) a b (aH2 q):=⟨_,_,mD w (bCk s),by
  unfold aH2 jS;by_cases hf:fits q
  .rw[if_pos hf,if_pos (aIu hf),jF]
  .rw[if_neg hf,if_neg (fun x=>hf (by have:=x.2.2;rwa [jF] at this))]⟩
theorem aKd(us:List VW)(hul:us.length<=1048576)(s:Sl)(nm:List Nat)(hnm:∀y∈nm,y<256)(H:Rat)(sH:Sr 2097153 H)(c d:Sl)(h:aA)(wu:IsW h s us)(wH:IsQ h c d H):
  Fn0 T F.q9 [s.val,.string (txt nm),.agg #[.bool (sg H),c.val,d.val]] h fun v h'=>∃t:Sl,v=.tuple #[t.val,.bool (dec (aH5 us nm))]/\IsV h' t (mU nm H us):=by
 have hsl:=wu.len;obtain⟨S,hS⟩:=AB (sg H);rw[<-hS];refine f0C ok D.q9 rfl ?_;conv=>whnf
 repeat ((first|apply oI.z|apply cI.z);conv=>whnf)
 intro b5;conv=>whnf
 repeat ((first|apply oI.z|apply cI.z);conv=>whnf)
 skip
 refine LpN.of (fun r ρ hx L=>∃(j:Nat) (V:Value) (F1:Vc.Own) (xs:List Value),r=us.length-j/\h.le hx/\j<=us.length/\rd ρ 10=.int .i64 j/\rd ρ 9=.bool (dec (aH5 (us.take j) nm))/\rd ρ 8=V/\
   L=F1++((b5,.cells [.bool S,c.val,d.val].toArray Ty.ref01_Q (0,0))::[])/\aE 64 4 V j xs F1/\VN hx xs (mU nm H (us.take j))) us.length
  ⟨0,_,[],[],rfl,aA.lr _,bDw _,rfl,congrArg Value.bool (aG (fun ⟨u,hu,_⟩=>by rw[bFa] at hu;cases hu)).symm,rfl,rfl,aE.nil _ _ _,rfl⟩ ?_
 conv=>whnf
 repeat intro _
 rename_i r hx L2 hI;obtain⟨j,V,F1,xs,rfl,hle,hj,e10,e9,e8,rfl,gF,hK⟩:=hI;conv at e10=>lhs;whnf
 subst e10;conv at e9=>lhs;whnf
 subst e9;conv at e8=>lhs;whnf
 subst e8;by_cases hjl:j=us.length
 .rw[hjl,bDm] at hK;rw[hjl,bDm];conv=>whnf
  repeat' ((first|((first|apply oI.z|apply cI.z))|(apply aB<;>intro _<;>try (exfalso;omega)))<;>conv=>whnf)
  exact RN.rowN gF hK (by unfold mU;rw[bDt];omega) fun h' s' hl hs hb=>by subst hs;exact⟨s',rfl,hb⟩
 .obtain⟨u,hu⟩:∃u,us[j]?=some u:=⟨_,bC8 Aa⟩
  have wux:=wu.mono hle;have hux:=bDc hu;have htk:mU nm H (us.take (j+1))=mU nm H (us.take j)++[shW nm H u]:=by
   rw[bD hu];unfold mU;rw[bDl];rfl
  by_cases e:u.1=nm
  .have hd:dec (aH5 (us.take (j+1)) nm)=true:=bA ⟨u,by rw[bD hu];exact bD0 _ (bDe ..),e⟩
   have hsh:(shW nm H u).2=aH2 (qW u+H):=by unfold shW;exact if_pos e
   have c1:=fun h a b (w:xI h a b u)=>zD h u.2.1 a b u.2.2.1 u.2.2.2 w.1
   have sW:=fun h a b (w:xI h a b u)=>aC2 w
   have hq:aN u.2.1 u.2.2.1 u.2.2.2=qW u:=rfl;obtain⟨Q,hQ⟩:=AB (qW u);simp only[hq,<-hQ] at c1 sW;rw[<-hQ] at hsh;have c2:=fun h a b w (y:Sr 2097153 Q) w'=>aIs h a b c d Q H w w' (y.mono Ad) (sH.mono Ad)
   simp only[<-hS] at c2;have c3:=fun h a b w (y:Sr 2097153 Q)=>aYq h a b (Q+H) w ((tB y sH).mono Ad)
   have nn:∀h a b,fP h a b (Q+H)->Sr 2097153 Q->cR h (sg (Q+H)) a b (shW nm H u).2:=fun h a b w y=>by
    rw[hsh];exact aPc w ((tB y sH).mono Ad)
   obtain⟨R,hR⟩:=AB (Q+H);simp only[<-hR] at c2 c3 nn;obtain⟨SR,hSR⟩:=AB (sg R);simp only[<-hSR] at c2 c3 nn;have hnn:∀y∈(shW nm H u).1,y<256:=by show ∀y∈u.1,y<256;rw[e];exact hnm
   clear hq hQ hR hSR hsh;conv=>whnf
   repeat' first|((first|(apply aQ.go)|(show Idx _ _ _ _ _;refine Idx.valw wux j u Aa hu (fun bl off a4 b4 hnn hN h1 h2=>?_))|(show LdN _ _ _ _ _;first|(refine LdN.hasC [.bool u.2.1,a4.val,b4.val] rfl (h1 _ _ Af) (fun i v hv=>h2 _ _ i v Af hv) ?_)|refine LdN.oA 0 rfl rfl ?_|refine LdN.tl (A:=[_]) (F:=F1) rfl ?_)|(show CN _ _ _ _ _ _;first|(refine CN.f rfl (c1 _ _ _ (hN.mono Af)) (fun v h' hl hr=>?_);obtain⟨a5,b5,rfl,hq5⟩:=hr;have y5:=sW _ _ _ hN)|(refine CN.f rfl (c2 _ _ _ Ab y5 (wH.mono Ac)) (fun v h' hl hr=>?_);obtain⟨a6,b6,rfl,hq6⟩:=hr)|(refine CN.f rfl (c3 _ _ _ Ab y5) (fun v h' hl hr=>?_);obtain⟨a7,b7,rfl,hq7⟩:=hr;have n7:=nn _ _ _ hq7 y5))|(show App _ _ _ _ _ _ _ _ _;refine App.growK (A:=[_,_]) (F:=F1) (size:=4) (bytes:=72) (z:=[.string (txt []),.bool false,.slice none 0 0,.slice none 0 0]) rfl rfl gF ⟨_,0,none⟩ 1 1 [_,_,_,_] rfl (Has.front _) rfl Ad Aa Aa Ad (fun v' F' g'=>?_))|((first|apply oI.z|apply cI.z))|refine⟨fun _=>aH.o Ab,?_⟩|refine⟨fun hst=>(by cases (show true=false from hst)),?_⟩|intro (_:Nat)|refine WN.i64 Aa Aa ?_|refine Ld.o 0 rfl rfl ?_|refine Sto.l 0 rfl rfl rfl ?_|refine DrN.run Al ?_)<;>conv=>whnf)|(show cnd _ _ _;first|(refine nI (a:=u.1) (b:=nm) Ab hnm (fun _=>?_) (fun hx=>absurd e hx);conv=>whnf)|(apply aB<;>intro _<;>first|(exfalso;omega)|conv=>whnf))
   all_goals exact⟨rfl,us.length-(j+1),Aa,j+1,_,_::_::F',_,rfl,Ac,Aa,vi Aa,congrArg Value.bool hd.symm,rfl,rfl,(g'.cons _).cons _,by rw[htk];exact VN.snoc hnn n7 (hK.mono Ac)⟩
  .have hd:dec (aH5 (us.take j) nm)=dec (aH5 (us.take (j+1)) nm):=cY ⟨fun ⟨v,hv,x⟩=>⟨v,by rw[bD hu];exact bDz _ hv,x⟩,fun ⟨v,hv,x⟩=>by
     rw[bD hu] at hv;rcases bDf.1 hv with hv|hv
     .exact⟨v,hv,x⟩
     .rw[bDk] at hv;subst hv;exact absurd x e⟩
   have hsh:(shW nm H u).2=jS u.2.1 u.2.2.1 u.2.2.2:=by unfold shW;exact if_neg e
   conv=>whnf
   repeat' first|((first|(apply aQ.go)|(show Idx _ _ _ _ _;refine Idx.valw wux j u Aa hu (fun bl off a4 b4 hnn hN h1 h2=>?_))|(show LdN _ _ _ _ _;first|(refine LdN.hasC [.bool u.2.1,a4.val,b4.val] rfl (h1 _ _ Af) (fun i v hv=>h2 _ _ i v Af hv) ?_)|refine LdN.oA 0 rfl rfl ?_)|(show App _ _ _ _ _ _ _ _ _;refine App.growK (A:=[_,_]) (F:=F1) (size:=4) (bytes:=72) (z:=[.string (txt []),.bool false,.slice none 0 0,.slice none 0 0]) rfl rfl gF ⟨_,0,none⟩ 1 1 [_,_,_,_] rfl (Has.front _) rfl Ad Aa Aa Ad (fun v' F' g'=>?_))|((first|apply oI.z|apply cI.z))|intro (_:Nat)|refine WN.i64 Aa Aa ?_|refine Ld.o 0 rfl rfl ?_|refine Sto.l 0 rfl rfl rfl ?_)<;>conv=>whnf)|(show cnd _ _ _;first|(refine nI (a:=u.1) (b:=nm) Ab hnm (fun hx=>absurd hx e) (fun _=>?_);conv=>whnf)|(apply aB<;>intro _<;>first|(exfalso;omega)|conv=>whnf))
   all_goals exact⟨rfl,us.length-(j+1),Aa,j+1,_,_::_::F',_,rfl,Ab,Aa,vi Aa,congrArg Value.bool hd,rfl,rfl,(g'.cons _).cons _,by rw[htk];exact VN.snoc hnn (by rw[hsh];exact hN.1.num') (hK.mono Af)⟩
end Go.Proofs.YtdccpmlhflpeaaaGreatDoor
/- Values that come in, opened: their raw numbers as they stand. -/
namespace Go.Proofs.YtdccpmlhflpeaaaGreatDoor
open Go Go.Proofs.Y Go.Vc Go.Dig Go.ChangeShapes Go.WideShapes Go.ChangeAt Go.RowKit
theorem aA6:Tryz.prog.cellsOf 64=4:=by kernel_rfl
theorem qM.of{h:aA}{c:Array Value}:∀(us:List VW) (off:Nat),(∀j u,us[j]?=some u->c[off+j*4]?=some (.string (txt u.1))/\(∀y∈u.1,y<256)/\∃a b:Sl,(∀i v,[Value.bool u.2.1,a.val,b.val][i]?=some v->c[off+j*4+1+i]?=some v)/\xI h a b u)->qM h c off us
 | [],_,_=>trivial
 | u::us,off,g=>by
  refine⟨?_,qM.of us (off+4) fun j u' hb=>?_⟩
  .have:=g 0 u rfl
   rwa [bEv,bEh] at this
  .have:=g (j+1) u' (by simpa using hb)
   rwa [show off+(j+1)*4=off+4+j*4 by omega] at this
theorem aFb{H:Type}{enc:TypeId × Value->H}{w:World}{n:Nat}{c0:Value}{d:DataW H}{p:List MemPlace}(f:DataW.trod enc Tryz.prog w 0 (fun _=>true) true n 28 [c0]=some (d,p))(hb:Rows.uptoBulk d<=1048576):∃(s:Sl) (bs:List VW),c0=s.val/\IsW (eR w) s bs/\bs.length<=1048576:=by
 rcases DataW.trod_slice Tryz.underlying28 f with ⟨e4,-⟩|⟨ad,len',cap',elems,rest,n',rfl,e4,e5,-,hlc,hcm,hel,hk,-,-⟩
 .exact⟨⟨none,0,0⟩,[],(List.cons.inj e4).1,⟨rfl,bDx _,.inl rfl⟩,bDw _⟩
 .have ev:=(List.cons.inj e4).1;have hbl:Rows.uptoBulkAll (elems.map (·.1))<=1048576:=by
   have e6:=(Prod.mk.inj e5).1;rw[e6] at hb;simp only[Rows.uptoBulk] at hb;omega
  have hk':∀i,i<len'->∃(b:VW) (vs:List Value),w.cells? 0 (ad.add (i*4)) 4=some vs/\vs[0]?=some (.string (txt b.1))/\(∀y∈b.1,y<256)/\∃a c:Sl,vs.drop 1=[.bool b.2.1,a.val,c.val]/\xI (eR w) a c b:=fun i hi=>by
   have h1:=hk i hi;rw[aA6,bC8 Aa,Option.bind_eq_some_iff] at h1;obtain⟨vs,h2,h3⟩:=h1;obtain⟨y0,y1,m,hx,hlen,g0,g1⟩:=trod_struct2 Tryz.underlying64 h3;have hl4:vs.length=4:=by rw[aA6] at hlen;exact hlen
   rw[show (Tryz.prog.cellsOf 9)=1 from zS] at g0;rw[show (Tryz.prog.cellsOf 24)=3 from zR] at g1;obtain⟨c0,c1,c2,c3,hvs⟩:∃c0 c1 c2 c3,vs=[c0,c1,c2,c3]:=by
    match vs,hl4 with
    | [c0,c1,c2,c3],_=>exact⟨c0,c1,c2,c3,rfl⟩
   subst hvs;have g0':DataW.trod enc Tryz.prog w 0 (fun _=>true) true m 9 [c0]=some y0:=g0
   have g1':DataW.trod enc Tryz.prog w 0 (fun _=>true) true m 24 [c1,c2,c3]=some y1:=g1
   obtain⟨s,e3,rfl,hs⟩:=DataW.trod_string Tryz.underlying9 g0';obtain⟨ng,a,b,l,mm,dn,dm,e2,wa,wb,ba,bb,hd,pa,pb,-⟩:=zP (enc:=enc) (base:=0) (v:=.agg #[c1,c2,c3]) (d:=y1.1) (p:=y1.2) ⟨_,rfl⟩ ⟨m,g1'⟩;have e2':=congrArg Array.toList (Value.agg.inj e2);obtain⟨hn1,hn2⟩:=aJd s;refine⟨(s.data.toList.map (·.toNat),ng,l,mm),_,h2,?_,hn2,a,b,e2',?_⟩
   .rw[List.getElem?_cons_zero,(List.cons.inj e3).1];exact congrArg some (congrArg Value.string hn1)
   .have hm:Rows.uptoBulk (elems[i]'(Aa)).1<=1048576:=bDv (zT (bDy (bFe _))) hbl;rw[hx] at hm;simp only[Rows.uptoBulk,Rows.uptoBulkAll,hd] at hm;have q1:=oT pa;have q2:=oT pb;exact⟨⟨wa,wb,ba,bb,by show l.length<=_;omega,by show mm.length<=_;omega⟩,by show l.length<=_;omega,by show mm.length<=_;omega⟩
  have hch:∀i,∃b:VW,i<len'->∃vs:List Value,w.cells? 0 (ad.add (i*4)) 4=some vs/\vs[0]?=some (.string (txt b.1))/\(∀y∈b.1,y<256)/\∃a c:Sl,vs.drop 1=[.bool b.2.1,a.val,c.val]/\xI (eR w) a c b:=fun i=>by
   by_cases hi:i<len'
   .obtain⟨b,g⟩:=hk' i hi;exact⟨b,fun _=>g⟩
   .exact⟨([],false,[],[]),fun x=>absurd x hi⟩
  obtain⟨f,hF⟩:=Classical.axiomOfChoice hch;have hlb:len'<=1048576:=by
   have:=zQ (elems.map (·.1));rw[bDt,hel] at this;omega
  refine⟨⟨some ad,len',cap'⟩,(List.range len').map f,ev,⟨by simp,hlc,?_⟩,by simpa using hlb⟩
  rcases bE7 len' with h0|h0
  .left;rw[h0];rfl
  .right
   obtain⟨bl,off,spot⟩:=ad;obtain⟨vs0,g0,-⟩:=hF 0 h0;have c0:=(eW g0).2 0 Aa;have l0:=(eW g0).1;rw[bC8 Aa,bEv] at c0;rw[show Addr.add (Addr.add ⟨bl,off,spot⟩ 0) 0=⟨bl,off,spot⟩ from rfl] at c0;obtain⟨hsp,c,T,fz,hc,-⟩:=oS c0
   change spot=none at hsp
   subst hsp;refine⟨bl,off,c,T,fz,rfl,hc,qM.of _ _ fun i bn hb=>?_⟩
   rw[bF1] at hb;obtain⟨i',hi',hb⟩:=Option.map_eq_some_iff.1 hb;obtain⟨hil,rfl⟩:i<len'/\i=i':=by
    rcases bEp i len' with q|q
    .rw[List.getElem?_range q] at hi';exact⟨q,Option.some.inj hi'⟩
    .rw[bD5 (by simpa using q)] at hi';cases hi'
   obtain⟨vs,g1,g2,g3,a,b,g4,g5⟩:=hF i hil;rw[hb] at g2 g3 g4 g5;obtain⟨l1,g6⟩:=eW g1;have cell:∀j,j<4->c[off+i*4+j]?=vs[j]?:=fun j hj=>by
    have c1:=g6 j hj;rw[rD,rD,bC8 Aa] at c1;obtain⟨-,c',T',fz',hc',hv⟩:=oS c1;rw[hc] at hc';cases hc';rw[hv,bC8 Aa]
   refine⟨?_,g3,a,b,fun j v hv=>?_,g5⟩
   .have:=cell 0 Aa;rw[bEh] at this;rw[this,g2]
   .have hj:j<3:=(bC9.1 hv).1;have:=cell (1+j) Aa;rw[<-bE4] at this;rw[this,<-bF5,g4,hv]
end Go.Proofs.YtdccpmlhflpeaaaGreatDoor
/- A point, an expression, a name and a step that come in, opened. -/
namespace Go.Proofs.YtdccpmlhflpeaaaGreatDoor
open Go Go.Proofs.Y Go.Vc Go.Dig Go.ChangeShapes Go.WideShapes Go.ChangeAt Go.RowKit
theorem aKe:Tryz.prog.cellsOf 30=12:=by kernel_rfl
theorem aH6:Tryz.prog.cellsOf 28=1:=by kernel_rfl
def aPd:Value:=.agg #[.int .i64 0,.int .i64 0,.bool false,.slice none 0 0,.slice none 0 0,.string ByteArray.empty,.slice none 0 0,.slice none 0 0,.string ByteArray.empty,.bool false,.slice none 0 0,.slice none 0 0]
def zdD{H:Type}:DataW H:=.agg [zdE,.nil,.lit (.string []),zd]
theorem aKf{h:aA}{v:Value}(i:In h 30 v):∃(vs:List Value) (t:Tr) (s:Sl) (us:List VW) (nm:List Nat) (ng:Bool) (a b:Sl) (l m:List Nat),v=.agg (vs++[s.val,.string (txt nm),.bool ng,a.val,b.val]).toArray/\vs.length=7/\IsE h vs t/\IsW h s us/\us.length<=1048576/\(∀y∈nm,y<256)/\bJ h a b l m/\l.length<=1048576/\m.length<=1048576:=by
 obtain⟨w,H,enc,base,d,p,rfl,hval,⟨n,hn⟩,hb⟩:=i.raw;unfold Value.okWide at hval;rw[Tryz.underlying30] at hval;obtain⟨cs,rfl,-⟩:=hval;have h0:DataW.trod enc Tryz.prog w 0 (fun _=>true) true n 30 cs.toList=some (d,p):=hn
 obtain⟨xs,m,rfl,hx,hlen,hxs,hf⟩:=DataW.trod_struct Tryz.underlying30 h0;rw[aKe] at hlen
 match xs,hxs with
 | [y0,y1,y2,y3],_=>
  obtain⟨c0,c1,c2,c3,c4,c5,c6,f0,e0,d0,d1,d2,hcs⟩:∃c0 c1 c2 c3 c4 c5 c6 f0 e0 d0 d1 d2,cs.toList=[c0,c1,c2,c3,c4,c5,c6,f0,e0,d0,d1,d2]:=by
   match cs.toList,hlen with
   | [c0,c1,c2,c3,c4,c5,c6,f0,e0,d0,d1,d2],_=>exact⟨c0,c1,c2,c3,c4,c5,c6,f0,e0,d0,d1,d2,rfl⟩
  rw[hcs] at hf;have g0:DataW.trod enc Tryz.prog w 0 (fun _=>true) true m 27 ([c0,c1,c2,c3,c4,c5,c6,f0,e0,d0,d1,d2].take (Tryz.prog.cellsOf 27))=some y0:=hf 0 _ rfl
  have g1:DataW.trod enc Tryz.prog w 0 (fun _=>true) true m 28 ([f0,e0,d0,d1,d2].take (Tryz.prog.cellsOf 28))=some y1:=hf 1 _ rfl
  have g2:DataW.trod enc Tryz.prog w 0 (fun _=>true) true m 9 ([e0,d0,d1,d2].take (Tryz.prog.cellsOf 9))=some y2:=hf 2 _ rfl
  have g3:DataW.trod enc Tryz.prog w 0 (fun _=>true) true m 24 ([d0,d1,d2].take (Tryz.prog.cellsOf 24))=some y3:=hf 3 _ rfl
  clear hf h0;rw[wD] at g0;rw[zS] at g2;rw[aH6] at g1;rw[zR] at g3
  change DataW.trod enc Tryz.prog w 0 (fun _=>true) true m 27 [c0,c1,c2,c3,c4,c5,c6]=some y0 at g0
  change DataW.trod enc Tryz.prog w 0 (fun _=>true) true m 24 [d0,d1,d2]=some y3 at g3
  change DataW.trod enc Tryz.prog w 0 (fun _=>true) true m 9 [e0]=some y2 at g2
  change DataW.trod enc Tryz.prog w 0 (fun _=>true) true m 28 [f0]=some y1 at g1
  obtain⟨t,ht⟩:=aCb m _ _ g0;obtain⟨s,e3,rfl,hs⟩:=DataW.trod_string Tryz.underlying9 g2;obtain⟨ng,a,b,l,mm,dn,dm,e2,wa,wb,ba,bb,hdn,pa,pb,-⟩:=zP (enc:=enc) (base:=0) (v:=.agg #[d0,d1,d2]) (d:=y3.1) (p:=y3.2) ⟨_,rfl⟩ ⟨m,g3⟩;have hd:=(Prod.mk.inj hx).1;rw[hd] at hb;simp only[bEe,bFd,Rows.uptoBulk,Rows.uptoBulkAll,hdn] at hb;obtain⟨sl,bs,e4,hv,hl⟩:=aFb (d:=y1.1) (p:=y1.2) g1 Aa;obtain⟨hn1,hn2⟩:=aJd s;have z1:=oT pa;have z2:=oT pb;have e2':=congrArg Array.toList (Value.agg.inj e2);obtain rfl:e0=.string s:=(List.cons.inj e3).1;obtain rfl:d0=.bool ng:=(List.cons.inj e2').1;obtain rfl:d1=a.val:=(List.cons.inj (List.cons.inj e2').2).1;obtain rfl:d2=b.val:=(List.cons.inj (List.cons.inj (List.cons.inj e2').2).2).1;refine⟨[c0,c1,c2,c3,c4,c5,c6],t,sl,bs,s.data.toList.map (·.toNat),ng,a,b,l,mm,?_,rfl,ht Aa,hv,hl,hn2,⟨wa,wb,ba,bb,Aa,Aa⟩,Aa,Aa⟩;rw[<-hn1,<-e4];show Value.agg cs=_;rw[<-Array.toArray_toList (xs:=cs),hcs]
  rfl
end Go.Proofs.YtdccpmlhflpeaaaGreatDoor
/- The law TopDerives: derivatives and values of a polynomial at a shifted point. -/
namespace Go.Proofs.YtdccpmlhflpeaaaGreatDoor
open Go Go.Proofs.Y Go.Vc Go.Dig
theorem aMl{K:aA->El->Prop}{h:aA}{s:Sl}{p:List (Mon × Rat)}(w:aHl K h s p):s.l=p.length:=by
 obtain⟨l,e,r,-⟩:=w;have:=r.len;rw[cU] at this;rw[<-e,bDt];omega
attribute [local irreducible] Vc.Fn FnP
theorem aPe(h:aA)(tb:Tb h)(pw:Pw h)(t:Tr)(vs:List Value)(w:IsE h vs t)(s:Sl)(us:List VW)(wu:IsW h s us)(hul:us.length<=1048576)(nm:List Nat)(hnm:∀y∈nm,y<256)(ng:Bool)(a b:Sl)(l m:List Nat)(hH:bJ h a b l m)(kl:l.length<=1048576)(km:m.length<=1048576):
  Fn0 T F.q3 [.agg (vs++[s.val,.string (txt nm),.bool ng,a.val,b.val]).toArray] h fun v h'=>v=.bool true:=by
 have cW:=fun h tb=>aPb h tb
 have c0:=fun h w=>aN4 t h vs w
 have c2:=fun h=>wV h nm hnm
 by_cases hv:dN t
 rotate_left
 .rw[aG hv] at c0;obtain⟨⟨o1,r1,n1,l1,m1,x1,k1⟩,ht⟩:=AB t;obtain⟨a1,b1,s1,hvs,-⟩:=(ht.symm▸w:IsE h vs (.mk o1 r1 n1 l1 m1 x1 k1)).isK;subst hvs;clear ht;refine f0C ok D.q3 rfl ?_;conv=>whnf
  repeat' ((first|(show LdN _ _ _ _ _;refine LdN.oA 0 rfl rfl ?_)|(show CN _ _ _ _ _ _;first|(refine CN.f rfl (c0 _ (w.mono Af)) (fun v h' hl hr=>?_);subst hr)|(refine CN.f rfl (cW _ Ae) (fun v h' hl hr=>?_);subst hr))|((first|apply oI.z|apply cI.z))|intro (_:Nat))<;>conv=>whnf)
  all_goals exact RN.a rfl
 have c1:=fun h w=>aUi t 1 hv.1 h vs w
 rw[bA hv] at c0;by_cases hp:aZ t
 rotate_left
 .rw[aG hp] at c1;obtain⟨⟨o1,r1,n1,l1,m1,x1,k1⟩,ht⟩:=AB t;obtain⟨a1,b1,s1,hvs,-⟩:=(ht.symm▸w:IsE h vs (.mk o1 r1 n1 l1 m1 x1 k1)).isK;subst hvs;clear ht;refine f0C ok D.q3 rfl ?_;conv=>whnf
  repeat' ((first|(show LdN _ _ _ _ _;refine LdN.oA 0 rfl rfl ?_)|(show CN _ _ _ _ _ _;first|(refine CN.f rfl (c0 _ (w.mono Af)) (fun v h' hl hr=>?_);subst hr)|(refine CN.f rfl (c1 _ (w.mono Ab)) (fun v h' hl hr=>?_);subst hr)|(refine CN.f rfl (cW _ Ae) (fun v h' hl hr=>?_);subst hr))|((first|apply oI.z|apply cI.z))|intro (_:Nat))<;>conv=>whnf)
  all_goals exact RN.a rfl
 rw[bA hp] at c1;by_cases hn:fE nm
 rotate_left
 .rw[aG hn] at c2;obtain⟨⟨o1,r1,n1,l1,m1,x1,k1⟩,ht⟩:=AB t;obtain⟨a1,b1,s1,hvs,-⟩:=(ht.symm▸w:IsE h vs (.mk o1 r1 n1 l1 m1 x1 k1)).isK;subst hvs;clear ht;refine f0C ok D.q3 rfl ?_;conv=>whnf
  repeat' ((first|(show LdN _ _ _ _ _;refine LdN.oA 0 rfl rfl ?_)|(show CN _ _ _ _ _ _;first|(refine CN.f rfl (c0 _ (w.mono Af)) (fun v h' hl hr=>?_);subst hr)|(refine CN.f rfl (c1 _ (w.mono Ab)) (fun v h' hl hr=>?_);subst hr)|(refine CN.f rfl (c2 _) (fun v h' hl hr=>?_);subst hr)|(refine CN.f rfl (cW _ Ae) (fun v h' hl hr=>?_);subst hr))|((first|apply oI.z|apply cI.z))|intro (_:Nat)|refine Ld.o 0 rfl rfl ?_)<;>conv=>whnf)
  all_goals exact RN.a rfl
 rw[bA hn] at c2;obtain⟨H,eH⟩:=AB (aN ng l m);have sH:Sr 2097153 H:=by rw[eH];exact aC2 (u:=(nm,ng,l,m)) ⟨hH,kl,km⟩
 have c3:=fun h w=>zD h ng a b l m w
 simp only[<-eH] at c3;have c4:=fun h c d wu wH=>aKd us hul s nm hnm H sH c d h wu wH
 have c5:=fun h sb tb wb w=>aHw (mU nm H us) (by unfold mU;rw[bDt];omega) sb t h vs tb wb w hp
 have c6:=fun h tb pw w=>aRc t h vs tb pw w hp
 obtain⟨B,hB⟩:=AB (dec (aH5 us nm));simp only[<-hB] at c4;have fW:=fun h sb (wb:IsV h sb (mU nm H us))=>aC1 (t:=t) (aA1 wb)
 have fU:=aA1 wu.isv;obtain⟨⟨W,wb,we⟩,hW⟩:=AB (lX (mU nm H us) t);obtain⟨⟨tx,ge⟩,hG⟩:=AB (nR t);simp only[<-hW] at c5 fW;simp only[<-hG] at c6;replace fW:∀h sb,IsV h sb (mU nm H us)->fits W:=fW
 replace c5:∀h sb,Tb h->IsV h sb (mU nm H us)->IsE h vs t->Fn0 T F.q10 [.agg vs.toArray,sb.val] h fun v h'=>∃a b:Sl,v=.tuple #[.agg #[.bool (sg W),a.val,b.val],.bool wb,.int .i64 we]/\fP h' a b W:=c5
 replace c6:∀h,Tb h->Pw h->IsE h vs t->Fn0 T F.q11 [.agg vs.toArray] h fun v h'=>v=.tuple #[.string (txt tx),.int .i64 ge]:=c6
 have c7:∀h,Tb h->ge=0->Fn0 T F.q12 [.string (txt tx)] h fun v h'=>∃a,v=.tuple #[a,.int .i64 (0:Nat),.int .i64 (0:Nat)]/\VE h' a (iV (reT t)):=fun h tb e=>by
  subst e;unfold nR at hG;rw[if_pos hv] at hG
  split at hG
  .cases hG
  .rename_i hl;cases hG;have hpt:=aJw hv hp Aa;have:=aK5 h tb (aK t) (tG t 1 _ vs hv.1 w) hpt.2;rw[hpt.1] at this;exact this
 have wz:Way nm us H t W 0 (iV (reT t)) 0 1:=aUh hp (aS7 hv);have fB:B=true->∃u∈us,u.1=nm:=fun x=>(aT8 (hB.symm.trans x):aH5 us nm)
 have fX:wb=true->we=0->lX (mU nm H us) t=(W,true,0):=fun x y=>by rw[<-hW,x,y]
 replace wz:=Hq.mk wz;obtain⟨D0,hD0⟩:=AB (iV (reT t));simp only[<-hD0] at c7 wz;clear hB hW hG hD0 eH;have hz:∀h a d,IsQ h a d ((0:Int):Rat)->IsQ h a d 0:=fun h a d w=>w
 have ho:∀h a d,IsQ h a d ((1:Int):Rat)->IsQ h a d 1:=fun h a d w=>w
 obtain⟨S3,hS3⟩:=AB (sg H);simp only[<-hS3] at c3 c4;obtain⟨SW,hSW⟩:=AB (sg W);simp only[<-hSW] at c5;obtain⟨⟨o1,r1,n1,l1,m1,x1,k1⟩,ht⟩:=AB t;obtain⟨a1,b1,s1,hvs,-⟩:=(ht.symm▸w:IsE h vs (.mk o1 r1 n1 l1 m1 x1 k1)).isK;subst hvs;clear ht;refine f0C ok D.q3 rfl ?_;conv=>whnf
 repeat' first|((first|(show LdN _ _ _ _ _;first|refine LdN.oA 0 rfl rfl ?_|refine LdN.oA 1 rfl rfl ?_|refine LdN.oA 2 rfl rfl ?_)|(show CN _ _ _ _ _ _;first|(refine CN.f rfl (c0 _ (w.mono Af)) (fun v h' hl hr=>?_);subst hr)|(refine CN.f rfl (c1 _ (w.mono Ab)) (fun v h' hl hr=>?_);subst hr)|(refine CN.f rfl (c2 _) (fun v h' hl hr=>?_);subst hr)|(refine CN.f rfl (cW _ Ae) (fun v h' hl hr=>?_);subst hr)|(refine CN.f rfl (c3 _ (hH.mono Ac)) (fun v h' hl hr=>?_);obtain⟨c3a,c3b,rfl,hq3⟩:=hr)|(refine CN.f rfl (c4 _ _ _ (wu.mono Ac) Ab) (fun v h' hl hr=>?_);obtain⟨s4,rfl,wb4⟩:=hr)|(refine CN.f rfl (c5 _ _ Ae (wb4.mono Af) (w.mono Ac)) (fun v h' hl hr=>?_);obtain⟨c5a,c5b,rfl,hq5⟩:=hr)|(refine CN.f rfl (c6 _ Ae (pw.mono Ac) (w.mono Ac)) (fun v h' hl hr=>?_);subst hr)|(refine CN.f rfl (c7 _ Ae Aa) (fun v h' hl hr=>?_);obtain⟨_,rfl,op,ar,ng7,n2,d2,na,s2,rfl,hE⟩:=hr)|(refine CN.f rfl (aIt _ 0 Ad Ad) (fun v h' hl hr=>?_);obtain⟨a0,d0,rfl,hq0⟩:=hr)|(refine CN.f rfl (aIt _ 1 Ad Ad) (fun v h' hl hr=>?_);obtain⟨a9,d9,rfl,hq9⟩:=hr))|((first|apply oI.z|apply cI.z))|intro (_:Nat)|(show Ld _ _ _ _;first|refine Ld.o 0 rfl rfl ?_|refine Ld.o 1 rfl rfl ?_)|(show Sto _ _ _ _;first|refine Sto.l 0 rfl rfl rfl ?_|refine Sto.l 1 rfl rfl rfl ?_))<;>conv=>whnf)|(show cnd _ _ _;first|(apply aD<;>intro _<;>first|(exfalso;omega)|conv=>whnf)|(refine aJ ?_)|(refine dE (fun hb=>?_) (fun hb=>?_)<;>(first|cases hb|subst hb)<;>(conv=>whnf)))
 all_goals try exact RN.a rfl
 rename_i bx g1 g2 g3 g4 g5 g6 g7 g8 b3 g9 g10 g11 g12 b6 g13 g14 g15 g16 g17 g18 b11 g19 g20 g21 b13 b14
 rename aA=>hK
 have hfar:=fX rfl Aa;obtain⟨u0,hu0,hu1⟩:=fB rfl;have hFf:=fW _ _ wb4;clear fX fB fW c0 c1 c2 c3 c4 c5 c6 c7;refine LpN.of (fun k ρ hx L=>∃(n:Nat) (J:Vc.Own) (S C:Rat) (sa sb ca cb:Sl) (d:Tr) (op ar:Int) (ng7:Bool) (n2 d2:Sl) (na:List Nat) (s2:Sl),k=70-n/\hK.le hx/\n<=70/\rd ρ 15=.int .i64 n/\
   L=J++((b14,.cells [.bool (sg C),ca.val,cb.val].toArray Ty.ref01_Q (0,0))::(b13,.cells [.bool (sg S),sa.val,sb.val].toArray Ty.ref01_Q (0,0))::(b11,.cells [.int .i64 op,.int .i64 ar,.bool ng7,n2.val,d2.val,.string (txt na),s2.val].toArray Ty.api_Expr (0,0))::(b6,.cells [.bool SW,c5a.val,c5b.val].toArray Ty.api_Rat (0,0))::(b3,.cells [.bool S3,c3a.val,c3b.val].toArray Ty.ref01_Q (0,0)) ::
    (bx,.cells [.int .i64 o1,.int .i64 r1,.bool n1,a1.val,b1.val,.string (txt x1),s1.val,s.val,.string (txt nm),.bool ng,a.val,b.val].toArray 30 (0,0))::[])/\
   IsQ hx sa sb S/\IsQ hx ca cb C/\IsE hx [.int .i64 op,.int .i64 ar,.bool ng7,n2.val,d2.val,.string (txt na),s2.val] d/\Hq (Way nm us H t W n d S C)) 70
  ⟨0,[],0,1,a0,d0,a9,d9,D0,op,ar,ng7,n2,d2,na,s2,rfl,Af,Aa,rfl,rfl,(hz _ _ _ hq0).mono Ab,(ho _ _ _ hq9).mono Af,hE.mono Ac,wz⟩ ?_
 conv=>whnf
 repeat intro _
 rename_i r hx L2 hI;obtain⟨n,J,S,C,sa,sb,ca,cb,d,op,ar,ng7,n2,d2,na,s2,rfl,hle,hn70,e15,rfl,hS,hC,hE,⟨hw⟩⟩:=hI;conv at e15=>lhs;whnf
 subst e15;have cW:=cW;by_cases h70:n=70
 .subst h70;conv=>whnf
  repeat' ((first|(show CN _ _ _ _ _ _;(refine CN.f rfl (cW _ Ae) (fun v h' hl hr=>?_);subst hr))|((first|apply oI.z|apply cI.z))|(apply aB<;>intro _<;>try (exfalso;omega)))<;>conv=>whnf)
  all_goals exact RN.a rfl
 have c9:=fun h tb pw w=>aXj d h [.int .i64 op,.int .i64 ar,.bool ng7,n2.val,d2.val,.string (txt na),s2.val] tb pw w hw.ply
 obtain⟨p,e,he,hpr⟩:=aT7 d;have srS:=hw.srS;have srC:=hw.srC;have cO:=fun h a b w=>aX8 h a b W w hFf
 simp only[<-hSW] at cO;by_cases hp0:p=[]
 .subst hp0;have hSE:e=0->S=W:=fun x=>hw.done hn hfar (he x)
  have cC:∀h a b c d,IsQ h a b S->IsQ h c d W->e=0->Fn0 T F.q15 [.agg #[.bool (sg S),a.val,b.val],.agg #[.bool SW,c.val,d.val]] h fun v _=>v=.int .i64 0:=fun h a b c d w1 w2 x=>by
   have:=hSE x;subst this;rw[hSW];exact bCj h a b c d S w1 w2 (srS.mono Aa)
  obtain⟨X,hX⟩:=AB (lM d);simp only[<-hX] at c9 hpr;clear hSE he hX hw;conv=>whnf
  repeat' first|((first|(show LdN _ _ _ _ _;first|refine LdN.tl3 (A:=[]) (F:=J) (G:=[_,_]) rfl ?_|refine LdN.tl3 (A:=[]) (F:=J) (G:=[_]) rfl ?_|refine LdN.tl3 (A:=[]) (F:=J) (G:=[_,_,_]) rfl ?_)|(show CN _ _ _ _ _ _;first|(refine CN.f rfl (c9 _ Ae (pw.mono Ac) (hE.mono Af)) (fun v h' hl hr=>?_);obtain⟨sp,rfl,w1⟩:=hpr _ _ hr;have k1:sp.l=0:=aMl w1)|(refine CN.f rfl (cW _ Ae) (fun v h' hl hr=>?_);subst hr)|(refine CN.f rfl (cO _ _ _ (hq5.mono Ac)) (fun v h' hl hr=>?_);obtain⟨e5a,e5b,rfl,hqo⟩:=hr)|(refine CN.f rfl (cC _ _ _ _ _ (hS.mono Ac) (hqo.mono Af) Aa) (fun v h' hl hr=>?_);subst hr))|((first|apply oI.z|apply cI.z))|refine⟨fun _=>aH.o Ab,?_⟩|refine DrN.run Al ?_)<;>conv=>whnf)|(show cnd _ _ _;first|((first|apply aB|apply aD)<;>intro _<;>first|(exfalso;omega)|conv=>whnf)|(refine aJ ?_))
  all_goals first|exact RN.a rfl|exact RN.a (congrArg Value.bool (by rw[pO,bA Ad]))
 have hpl:p.length≠0:=fun x=>hp0 (bD7.1 x)
 obtain⟨⟨q,qb,qe⟩,hq⟩:=AB (lX (vwV us) d);obtain⟨⟨Dt,De⟩,hD⟩:=AB (aOj nm d);have c10:=fun h tb (wb:IsW h s us) w=>aHw (vwV us) (by unfold vwV;rw[bDt];omega) s d h [.int .i64 op,.int .i64 ar,.bool ng7,n2.val,d2.val,.string (txt na),s2.val] tb wb.isv w hw.ply
 have c17:=fun h tb w (x:e=0)=>aO9 d nm hnm h [.int .i64 op,.int .i64 ar,.bool ng7,n2.val,d2.val,.string (txt na),s2.val] tb w hw.ply (vI (he x)).1 hn (aE9 d hw.ply)
 have fq:=aC1 (t:=d) fU;simp only[<-hq] at c10 fq;simp only[<-hD] at c17;replace fq:fits q:=fq;replace c10:∀h,Tb h->IsW h s us->IsE h [.int .i64 op,.int .i64 ar,.bool ng7,n2.val,d2.val,.string (txt na),s2.val] d->Fn0 T F.q10 [.agg [.int .i64 op,.int .i64 ar,.bool ng7,n2.val,d2.val,.string (txt na),s2.val].toArray,s.val] h fun v h'=>∃a b:Sl,v=.tuple #[.agg #[.bool (sg q),a.val,b.val],.bool qb,.int .i64 qe]/\fP h' a b q:=c10
 replace c17:∀h,Tb h->IsE h [.int .i64 op,.int .i64 ar,.bool ng7,n2.val,d2.val,.string (txt na),s2.val] d->e=0->Fn0 T F.q19 [.agg [.int .i64 op,.int .i64 ar,.bool ng7,n2.val,d2.val,.string (txt na),s2.val].toArray,.string (txt nm)] h fun v h'=>∃a,v=.tuple #[a,.int .i64 De]/\VE h' a Dt:=c17
 have nx:e=0->qb=true->qe=0->De=0->Way nm us H t W (n+1) Dt (S+q*C) (C*H / (((n:Int)+1:Int):Rat)):=fun x1 x2 x3 x4=>by
  subst x2;subst x3;subst x4;exact hw.next hn fU hfar hu0 hu1 (he x1) hq.symm hD.symm Aa
 have c11:=fun h a b w=>aX8 h a b q w fq
 have c12:=fun h a b c d w w'=>aKw h a b c d q C w w' ((pZ fq).mono Ad) (srC.mono Aa)
 have y1:=vY (pZ fq) srC;have c14:=fun h a b c d w w'=>aKw h a b c d C H w w' (srC.mono Aa) (sH.mono Ad)
 have y2:=vY srC sH;have c15:=fun h=>aIt h ((n:Int)+1) Aa Aa
 have y3:=aMk (n:=n+1) Aa;rw[show (((n+1:Nat):Int):Rat)=(((n:Int)+1:Int):Rat) from rfl] at y3;obtain⟨P1,hP1⟩:=AB (q*C);obtain⟨C1,hC1⟩:=AB (C*H);obtain⟨N1,hN1⟩:=AB (((n:Int)+1:Int):Rat);simp only[<-hP1,<-hC1,<-hN1] at c12 y1 c14 y2 c15 y3 nx;have c13:=fun h a b c d w w'=>aIs h a b c d S P1 w w' (srS.mono Aa) (y1.mono Aa)
 have c16:=fun h a b c d w w'=>aYo h a b c d C1 N1 w w' (y2.mono Aa) (y3.mono Ad)
 obtain⟨S',hS'⟩:∃S',S'=S+P1:=⟨_,rfl⟩
 obtain⟨C',hC'⟩:∃C',C'=C1 / N1:=⟨_,rfl⟩
 simp only[<-hS',<-hC'] at c13 c16 nx;simp only[<-hS3] at c14;obtain⟨X,hX⟩:=AB (lM d);simp only[<-hX] at c9 hpr;replace nx:=Hq.mk nx;clear hP1 hC1 hN1 hS' hC' hX y1 y2 y3 he hw hq hD srS srC fq cO;conv=>whnf
 repeat' first|((first|(show LdN _ _ _ _ _;first|refine LdN.tl3 (A:=[]) (F:=J) (G:=[_,_]) rfl ?_|refine LdN.oA 0 rfl rfl ?_|refine LdN.tl3 (A:=[_]) (F:=J) (G:=[_]) rfl ?_|refine LdN.tl (A:=[_]) (F:=J) rfl ?_|refine LdN.tl3 (A:=[_]) (F:=J) (G:=[_,_]) rfl ?_|refine LdN.tl3 (A:=[_]) (F:=J) (G:=[_,_,_,_]) rfl ?_)|(show CN _ _ _ _ _ _;first|(refine CN.f rfl (c9 _ Ae (pw.mono Ac) (hE.mono Af)) (fun v h' hl hr=>?_);obtain⟨sp,rfl,w1⟩:=hpr _ _ hr;have k1:=aMl w1)|(refine CN.f rfl (cW _ Ae) (fun v h' hl hr=>?_);subst hr)|(refine CN.f rfl (c10 _ Ae (wu.mono Ac) (hE.mono Ab)) (fun v h' hl hr=>?_);obtain⟨ea,eb,rfl,hq10⟩:=hr)|(refine CN.f rfl (c11 _ _ _ (hq10.mono Af)) (fun v h' hl hr=>?_);obtain⟨fa,fb,rfl,hq11⟩:=hr)|(refine CN.f rfl (c12 _ _ _ _ _ (hq11.mono Af) (hC.mono Ac)) (fun v h' hl hr=>?_);obtain⟨ga,gb,rfl,hq12⟩:=hr)|(refine CN.f rfl (c13 _ _ _ _ _ (hS.mono Ac) (hq12.mono Af)) (fun v h' hl hr=>?_);obtain⟨ha,hb,rfl,hq13⟩:=hr)|(refine CN.f rfl (c14 _ _ _ _ _ (hC.mono Ac) (hq3.mono Ac)) (fun v h' hl hr=>?_);obtain⟨ia,ib,rfl,hq14⟩:=hr)|(refine CN.f rfl (c15 _) (fun v h' hl hr=>?_);obtain⟨ja,jb,rfl,hq15⟩:=hr)|(refine CN.f rfl (c16 _ _ _ _ _ (hq14.mono Ab) (hq15.mono Af)) (fun v h' hl hr=>?_);obtain⟨ka,kb,rfl,hq16⟩:=hr)|(refine CN.f rfl (c17 _ Ae (hE.mono Ac) Aa) (fun v h' hl hr=>?_);obtain⟨_,rfl,op17,ar17,ng17,nn17,dd17,nm17,ss17,rfl,hE17⟩:=hr))|(show Ld _ _ _ _;first|refine Ld.tl3 (A:=[]) (F:=J) (G:=[_,_,_,_,_]) rfl ?_|refine Ld.tl3 (A:=[_]) (F:=J) (G:=[_,_,_,_,_]) rfl ?_)|(show Sto _ _ _ _;first|refine Sto.tl3 (A:=[_]) (F:=J) (G:=[_]) rfl rfl ?_|refine Sto.tl (A:=[_]) (X:=J) rfl rfl ?_|refine Sto.tl3 (A:=[_]) (F:=J) (G:=[_,_]) rfl rfl ?_|refine Sto.l 0 rfl rfl rfl ?_)|((first|apply oI.z|apply cI.z))|refine⟨fun _=>aH.o Ab,?_⟩|refine⟨fun hst=>(by cases (show true=false from hst)),?_⟩|intro (_:Nat)|refine WN.i64 Aa Aa ?_|refine DrN.run Al ?_)<;>conv=>whnf)|(show cnd _ _ _;first|((first|apply aB|apply aD)<;>intro _<;>first|(exfalso;omega)|conv=>whnf)|(refine aJ ?_)|(refine dE (fun hb=>?_) (fun hb=>?_)<;>(first|cases hb|subst hb)<;>(conv=>whnf)))
 all_goals first
  | exact RN.a rfl
  | exact⟨rfl,70-(n+1),Aa,n+1,_::J,S',C',_,_,_,_,Dt,_,_,_,_,_,_,_,rfl,Ac,Aa,vi Aa,rfl,(by (iterate 30 try first|assumption|refine IsQ.mono ?_ Ab);first|done|assumption),(by (iterate 30 try first|assumption|refine IsQ.mono ?_ Ab);first|done|assumption),hE17.mono Af,⟨nx.out Aa rfl Aa Aa⟩⟩
end Go.Proofs.YtdccpmlhflpeaaaGreatDoor