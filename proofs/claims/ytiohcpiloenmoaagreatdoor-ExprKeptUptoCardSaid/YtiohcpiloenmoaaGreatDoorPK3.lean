/- Numbers and trees copied: the law's own functions. -/
import Derived.Test.YtiohcpiloenmoaaGreatDoorFrT
import Derived.Test.YtiohcpiloenmoaaGreatDoorE50
import Derived.Test.YtiohcpiloenmoaaGreatDoorPF10
import Derived.Test.YtiohcpiloenmoaaGreatDoorE86
set_option linter.all false
set_option maxHeartbeats 8000000
set_option maxRecDepth 20000
namespace Go.Vc
open Go Go.Dig
theorem App.copy{T:Tab}{e:TypeId}{bytes:Nat}{h:aA}{tl:Vc.Own}{k:Value->aA->Vc.Own->Prop}{kd:IntKind}{z:Value}{t:Sl}{l:List Nat}(hi:T.inf e=some ([z],bytes))
  (w:Ws kd h t l) (hn:l.length<=35184372088832) (hby:bytes<=4)
  (hk:∀h' (s:Sl),h.le h'->Ws kd h' s l->s.l=t.l->k s.val h' tl):App T e 1 bytes (.slice none 0 0) t.val h tl k:=by
 have hln:=w.len;obtain⟨a,ln,c⟩:=t;replace hln:ln=l.length:=hln
 match a with
 | none=>
  obtain rfl:l=[]:=by
   rcases bB0 l with e|⟨_,_,e⟩
   .exact e
   .obtain⟨b,off,_,_,_,hx,-⟩:=w.mem (by rw[e];simp);cases hx
  subst hln;exact App.nil hi (aE.nil e 1 tl) (hk h ⟨none,0,0⟩ (aA.lr _) (Ws.nil rfl) rfl)
 | some a=>
  by_cases h0:l=[]
  .subst h0;subst hln;exact App.zero hi (aE.nil e 1 tl) (hk h ⟨none,0,0⟩ (aA.lr _) (Ws.nil rfl) rfl)
  .obtain⟨b',off,c',T',fz,h1,h2,h3⟩:=w.mem h0;cases h1;have hpos:0<l.length:=List.length_pos_iff.2 h0;subst hln;refine App.weaken (App.growF (F:=[]) (tl:=tl) (n:=0) (xs:=[]) hi rfl (aE.nil e 1 _) ⟨b',off,none⟩ l.length c (l.map (vu kd)) Ar (fun j hj=>?_) (by simp[vu,eS]) hpos Aa (by rw[aZq];exact aZr (bA1 hn hby) Ag) Nat.one_pos
     (k:=fun v h' L'=>h'=h/\∃F',L'=F'++tl/\aE e 1 v l.length (l.map (vu kd)) F') (fun v' F' g'=>⟨rfl,F',rfl,by simpa using g'⟩)) fun v h' L' ⟨e1,F',e2,g⟩=>?_
   .simp at hj;rw[aZ];refine Has.imm h2 ?_;rw[h3 j hj];simp[hj,vu,aY3]
   .subst e1 e2;obtain⟨g1,⟨-,e3⟩|⟨i,b,cap,zs,rfl,g2,g3,g4⟩⟩:=g
    .omega
    .have hlt:=(aY5.1 g2).1;refine FzN.keep i (by rw[aZe hlt];exact g2) fun hle=>?_
     rw[bCb hlt];exact FzN.dropJ (.done (hk _ ⟨some ⟨b,0,none⟩,l.length,cap⟩ hle (Ws.grown rfl g3) rfl))
end Go.Vc
namespace Go.Proofs.YtiohcpiloenmoaaGreatDoor
open Go Go.Proofs.Y Go.Vc Go.Dig
theorem aFm(h:aA)(n:Bool)(a b:Sl)(l m:List Nat)(v:aY h a b l m):Fn0 T F.q7 [.agg #[.bool n,a.val,b.val]] h fun v h'=>∃c d:Sl,v=.agg #[.bool n,c.val,d.val]/\aY h' c d l m/\c.l=a.l/\d.l=b.l:=by
 have v1:=v.num;have v2:=v.den;have z1:=v.sn;have z2:=v.sm;refine f0C ok D.q7 rfl ?_;conv=>whnf
 repeat' ((first|(show LdN _ _ _ _ _;refine LdN.oA 0 rfl rfl ?_)|(show App _ _ _ _ _ _ _ _ _;first|(refine App.copy rfl (v1.mono Ad) Aa Ag (fun h1 s1 hl1 w1 k1=>?_))|refine App.copy rfl (v2.mono Ab) Aa Ag (fun h2 s2 hl2 w2 k2=>?_))|((first|apply oI.z|apply cI.z))|refine⟨fun _=>aF.o Ab,?_⟩|refine⟨fun hst=>(by cases (show true=false from hst)),?_⟩|intro (_:Nat)|refine Ld.o 1 rfl rfl ?_|refine Sto.l 0 rfl rfl rfl ?_|refine DrN.run Al ?_)<;>conv=>whnf)
 all_goals exact RN.a ⟨_,_,rfl,⟨w1.mono Ab,w2.mono Ad,v.ln,v.lm,z1,z2⟩,k1,k2⟩
attribute [local irreducible] Vc.Fn
theorem aL8:∀(t:Tr) (d:Nat),okT d t->∀(h:aA) (vs:List Value),IsE h vs t->Fn0 T F.q6 [.agg vs.toArray] h fun v h'=>VE h' v t:=by
 refine dX fun t ih=>?_
 intro d hok h vs w;obtain⟨op,arg,neg,l,m,name,ks⟩:=t;obtain⟨a,b,s,rfl,ho,ha,hv,hb,hk⟩:=w.isK;rw[okT] at hok;have hks:ks.length<=3:=by
  have h1:=hok.2.1.1;have h2:=cR op;omega
 have hkl:=hk.len;have c1:=fun h hv=>aFm h neg a b l m hv
 refine f0C ok D.q6 rfl ?_;conv=>whnf
 repeat' first|((first|(show LdN _ _ _ _ _;refine LdN.oA 1 rfl rfl ?_)|(show CN _ _ _ _ _ _;(refine CN.f rfl (c1 _ Ab) (fun v h' hl2 hr=>?_);obtain⟨a2,b2,rfl,hv2,-,-⟩:=hr))|((first|apply oI.z|apply cI.z))|refine⟨fun _=>aF.o Ab,?_⟩|refine⟨fun _=>aF.cons _,?_⟩|refine⟨fun hst=>(by cases (show true=false from hst)),?_⟩|intro (_:Nat)|refine Ld.o 1 rfl rfl ?_|refine Sto.l 0 rfl rfl rfl ?_|refine DrN.run Al ?_)<;>conv=>whnf)|(refine kM.mk ?_ ?_<;>(conv=>whnf))
 all_goals
  rename_i be bz bo;refine LpN.of (fun r ρ hx L=>∃(j:Nat) (V:Value) (F1:Vc.Own) (xs:List Value),r=ks.length-j/\h'.le hx/\j<=ks.length/\rd ρ 4=.int .i64 j/\
    L=F1++((bo,.cells [.int .i64 op,.int .i64 arg,.bool neg,a2.val,b2.val,.string (txt name),V].toArray Ty.api_Expr (0,0))::(bz,.cells [.int .i64 0,.int .i64 0,.bool false,.slice none 0 0,.slice none 0 0,.string (txt []),.slice none 0 0].toArray Ty.api_Expr (0,0))::(be,.cells [.int .i64 op,.int .i64 arg,.bool neg,a.val,b.val,.string (txt name),s.val].toArray Ty.api_Expr (0,0))::[])/\
    aE Ty.api_Expr 7 V j xs F1/\KC hx xs (ks.take j)) ks.length
   ⟨0,_,[],[],rfl,aA.lr _,aZs _,rfl,rfl,aE.nil _ _ _,by rw[bAt];rfl⟩ ?_
  conv=>whnf
  repeat intro _
  rename_i r hx L2 hI;obtain⟨j,V,F1,xs,rfl,hle,hj,e4,rfl,gF,hK⟩:=hI;conv at e4=>lhs;whnf
  subst e4;obtain⟨sv,rfl⟩:=gF.sl;have hsl:=hk.len;by_cases hjl:j=ks.length
  .subst hjl;rw[aZi] at hK;conv=>whnf
   repeat' ((first|(show Ld _ _ _ _;refine Ld.tl3 (A:=[]) (F:=F1) (G:=[_,_]) rfl ?_)|(show LdN _ _ _ _ _;first|refine LdN.tl (A:=[]) (F:=F1) rfl ?_|refine LdN.tl3 (A:=[]) (F:=F1) (G:=[_]) rfl ?_)|(show Sto _ _ _ _;refine Sto.tl3 (A:=[]) (F:=F1) (G:=[_]) rfl rfl ?_)|((first|apply oI.z|apply cI.z))|(apply aB<;>intro _<;>try (exfalso;omega)))<;>conv=>whnf)
   refine RN.rowA (X:=F1) gF hK rfl fun h' s' hl hs hk'=>?_
   rw[hs];exact⟨op,arg,neg,a2,b2,name,s',rfl,IsE.mkK ho ha Ao hb hk'⟩
  .obtain⟨t,ht⟩:∃t,ks[j]?=some t:=⟨_,aY4 Aa⟩
   have c2:=fun h vs w=>ih t (bM ht) (d+1) (dY hok.2.2 (aY8 ht)) h vs w
   have hkx:=hk.mono (aA.lt hl2 hle);conv=>whnf
   repeat' ((first|(show Ld _ _ _ _;first|refine Ld.tl3 (A:=[]) (F:=F1) (G:=[_,_]) rfl ?_|refine Ld.tl (A:=[_]) (F:=F1) rfl ?_)|(show Idx _ _ _ _ _;refine Idx.kid hkx j t Aa ht (fun ad op arg neg a b name s' hE hld=>?_))|refine hld _ _ _ (aA.lr _) ?_|((first|apply oI.z|apply cI.z))|intro (_:Nat)|(show CN _ _ _ _ _ _;(refine CN.f rfl (c2 _ _ Ab) (fun v h' hl2 hr=>?_);obtain⟨op2,ar2,ng2,nn2,dd2,nm2,ss2,rfl,hE2⟩:=hr;have hK2:=hK.mono hl2))|(show App _ _ _ _ _ _ _ _ _;(refine App.growK (A:=[_,_]) (F:=F1) (size:=7) (bytes:=112) (z:=[.int .i64 0,.int .i64 0,.bool false,.slice none 0 0,.slice none 0 0,.string (txt []),.slice none 0 0]) rfl rfl gF ⟨_,0,none⟩ 1 1 [_,_,_,_,_,_,_] rfl (Has.front _) rfl Ag Aa Aa Ag (fun v' F' g'=>?_);obtain⟨sv2,rfl⟩:=g'.sl))|(show Sto _ _ _ _;first|refine Sto.tl (A:=[_,_]) (X:=F') rfl rfl ?_|refine Sto.l 0 rfl rfl rfl ?_)|refine WN.i64 Aa Aa ?_|refine LdN.o 0 rfl rfl ?_|(apply aB<;>intro _<;>try (exfalso;omega)))<;>conv=>whnf)
   all_goals exact⟨rfl,ks.length-(j+1),Aa,j+1,_,_::_::F',_,rfl,Ac,Aa,vi Aa,rfl,(g'.cons _).cons _,by rw[bB ht];exact KC.snoc rfl hE2 hK2⟩
end Go.Proofs.YtiohcpiloenmoaaGreatDoor
/- Values with raw numbers: in memory, in rows of the call's own; equal raw numbers are the same. -/
namespace Go.Vc
open Go Go.Dig
end Go.Vc
namespace Go.Proofs.YtiohcpiloenmoaaGreatDoor
open Go Go.Proofs.Y Go.Vc Go.Dig
abbrev VW:=List Nat × Bool × List Nat × List Nat
def rP(h:aA)(a b:Sl)(u:VW):Prop:=aY h a b u.2.2.1 u.2.2.2/\u.2.2.1.length<=1048576/\u.2.2.2.length<=1048576
theorem rP.mono{h h':aA}{a b:Sl}{u:VW}(w:rP h a b u)(hl:h.le h'):rP h' a b u:=⟨w.1.mono hl,w.2⟩
def oO(h:aA)(c:Array Value):Nat->List VW->Prop
 | _,[]=>True
 | off,u::us=>(c[off]?=some (.string (txt u.1))/\(∀y∈u.1,y<256)/\∃a b:Sl,(∀i v,[Value.bool u.2.1,a.val,b.val][i]?=some v->c[off+1+i]?=some v)/\rP h a b u)/\oO h c (off+4) us
structure IsW (h:aA) (s:Sl) (us:List VW):Prop where
 len:s.l=us.length
 cap:s.l<=s.c
 mem:us=[]\/∃bl off c T fz,s.a=some ⟨bl,off,none⟩/\h bl=some (.cells c T fz)/\oO h c off us
theorem oO.up{h h':aA}(hl:h.le h'){c:Array Value}:∀{us:List VW} {off:Nat},oO h c off us->oO h' c off us
 | [],_,_=>trivial
 | _::_,_,⟨⟨h1,h2,a,b,h4,h5⟩,r⟩=>⟨⟨h1,h2,a,b,h4,h5.mono hl⟩,oO.up hl r⟩
theorem IsW.mono{h h':aA}{s:Sl}{us:List VW}(w:IsW h s us)(hl:h.le h'):IsW h' s us:=
 ⟨w.len,w.cap,w.mem.elim .inl fun ⟨bl,off,c,T,fz,k1,k2,k3⟩=>.inr ⟨bl,off,c,T,fz,k1,hl _ _ k2,oO.up hl k3⟩⟩
theorem oO.get{h:aA}{c:Array Value}:∀{us:List VW} {off j:Nat} {u:VW},oO h c off us->us[j]?=some u->
  c[off+j*4]?=some (.string (txt u.1))/\(∀y∈u.1,y<256)/\∃a b:Sl,(∀i v,[Value.bool u.2.1,a.val,b.val][i]?=some v->c[off+j*4+1+i]?=some v)/\rP h a b u
 | [],_,_,_,_,e=>by simp at e
 | u'::us,off,0,u,w,e=>by
  simp at e;subst e;rw[bAs,bAg];exact w.1
 | u'::us,off,j+1,u,w,e=>by
  have:=oO.get (j:=j) w.2 (by simpa using e);rw[show off+4+j*4=off+(j+1)*4 by omega] at this
  exact this
theorem Idx.valw{h:aA}{s:Sl}{us:List VW}(w:IsW h s us){i:Int}{k:Addr->Prop}(j:Nat)(u:VW)(hi:i=j)(ht:us[j]?=some u)
  (hk:∀(bl off:Nat) (a b:Sl),(∀y∈u.1,y<256)->rP h a b u->
    (∀h' L,h.le h'->Has h' L ⟨bl,off,none⟩ (.string (txt u.1)))->(∀h' L (i:Nat) v,h.le h'->[Value.bool u.2.1,a.val,b.val][i]?=some v->Has h' L ⟨bl,off+1+i,none⟩ v)->k ⟨bl,off,none⟩):Idx s.a i s.l 4 k:=by
 obtain⟨hj,-⟩:=aY5.1 ht;rcases w.mem with e|⟨bl,off,c,T,fz,e1,e2,e3⟩
 .subst e;simp at ht
 .obtain⟨g1,g2,a,b,h2,h3⟩:=oO.get e3 ht;refine Idx.of j e1 hi (by rw[w.len];exact hj) ?_;exact hk bl (off+j*4) a b g2 h3 (fun h' L hl=>Has.imm (hl _ _ e2) g1) fun h' L i v hl hv=>Has.imm (hl _ _ e2) (h2 i v hv)
def vwV(us:List VW):List (List Nat × Option Rat):=us.map fun u=>(u.1,gT u.2.1 u.2.2.1 u.2.2.2)
theorem oO.isvs{h:aA}{c:Array Value}:∀{us:List VW} {off:Nat},oO h c off us->uH h c off (vwV us)
 | [],_,_=>trivial
 | _::_,_,⟨⟨h1,h2,a,b,h4,h5⟩,r⟩=>⟨⟨h1,h2,_,a,b,h4,h5.1.num'⟩,oO.isvs r⟩
theorem IsW.isv{h:aA}{s:Sl}{us:List VW}(w:IsW h s us):IsV h s (vwV us):=
 ⟨by unfold vwV;rw[aZp];exact w.len,w.cap,w.mem.elim (fun e=>.inl (by rw[e];rfl)) fun ⟨bl,off,c,T,fz,k1,k2,k3⟩=>.inr ⟨bl,off,c,T,fz,k1,k2,k3.isvs⟩⟩
def VC(h:aA):List Value->List VW->Prop
 | xs,[]=>xs=[]
 | xs,u::us=>∃(a b:Sl) (ys:List Value),xs=[.string (txt u.1),.bool u.2.1,a.val,b.val]++ys/\(∀y∈u.1,y<256)/\rP h a b u/\VC h ys us
theorem VC.mono{h h':aA}(hl:h.le h'):∀{us:List VW} {xs:List Value},VC h xs us->VC h' xs us
 | [],_,e=>e
 | _::_,_,⟨a,b,ys,e,b1,i,r⟩=>⟨a,b,ys,e,b1,i.mono hl,VC.mono hl r⟩
theorem VC.snoc{h:aA}{u:VW}{a b:Sl}(hb:∀y∈u.1,y<256)(i:rP h a b u):∀{us:List VW} {xs:List Value},VC h xs us->VC h (xs++[.string (txt u.1),.bool u.2.1,a.val,b.val]) (us++[u])
 | [],_,e=>⟨a,b,[],by rw[show _=[] from e];rfl,hb,i,rfl⟩
 | _::_,_,⟨a',b',ys,e,b1,j,r⟩=>⟨a',b',ys++[.string (txt u.1),.bool u.2.1,a.val,b.val],by rw[e,aY7],b1,j,VC.snoc hb i r⟩
theorem VC.isw{h:aA}{c:Array Value}:∀{us:List VW} {xs:List Value} {off:Nat},VC h xs us->(∀i,i<xs.length->c[off+i]?=xs[i]?)->oO h c off us
 | [],_,_,_,_=>trivial
 | u::us,xs,off,⟨a,b,ys,e,b1,j,r⟩,g=>by
  subst e;refine⟨⟨?_,b1,a,b,fun i v hi=>?_,j⟩,VC.isw r fun i hi=>?_⟩
  .have:=g 0 Ar
   rwa [bAg] at this
  .have hl:=(aY5.1 hi).1;have hl:i<3:=hl;have:=g (1+i) As;rw[<-bA6] at this;rw[this,show 1+i=i+1 by omega,bAk,bBo,<-hi]
   exact aZe hl
  .have:=g (4+i) As;rw[<-bA6] at this;rw[this,aZo Ar];simp
theorem CN.growW{e:TypeId}{v:Value}{n:Nat}{xs:List Value}{F tl:Vc.Own}{f:FuncId}{args:List Value}{h:aA}{k:Value->aA->Vc.Own->Prop}{acc:List VW}(g:aE e 4 v n xs F)(kc:VC h xs acc)(hn:n=acc.length)(hf:T.fn f=true)
  (hk:∀h' (s:Sl) F',h.le h'->v=s.val->IsW h' s acc->CN T f args h' (F'++tl) k):CN T f args h (F++tl) k:=by
 obtain⟨g1,⟨rfl,rfl⟩|⟨i,b,cap,zs,rfl,h2,h3,h4⟩⟩:=g
 .obtain rfl:acc=[]:=aZ3.1 hn.symm;exact hk h ⟨none,0,0⟩ F (aA.lr _) rfl ⟨rfl,aZt _,.inl rfl⟩
 .have hlt:=(aY5.1 h2).1;refine CN.keep i (by rw[aZe hlt];exact h2) hf fun hle=>?_
  rw[bCb hlt];refine hk _ ⟨some ⟨b,0,none⟩,n,cap⟩ _ hle rfl ⟨hn,h3,.inr ⟨b,0,(xs++zs).toArray,e,(0,0),rfl,by simp[aA.put],VC.isw (kc.mono hle) fun i hi=>?_⟩⟩
  rw[aZq,aZx,aZe hi]
theorem aL9{h:aA}{a b:Sl}{u:VW}(w:rP h a b u):Sr 2097153 (aK u.2.1 u.2.2.1 u.2.2.2):=by
 have h1:=mB w.1.ln;have h2:=mB w.1.lm;have h3:=w.2.1;have h4:=w.2.2;have h5:=aDq u.2.1 u.2.2.1 u.2.2.2;have h6:=mJ 65536 tlb;refine⟨aZr (dG tlb h5.1) Aa,aZr (dG tlb h5.2) ?_⟩
 split<;>omega
theorem aYb(h:aA)(a b c d:Sl)(q:Rat)(hq:IsQ h a b q)(hr:IsQ h c d q)(hs:Sr 2097153 q):
  Fn0 T F.q39 [.agg #[.bool (sg q),a.val,b.val],.agg #[.bool (sg q),c.val,d.val]] h fun v _=>v=.int .i64 0:=by
 have y1:Sr 1073741824 q:=hs.mono Ag;have y3:Sr 1099511627776 (q-q):=by rw[bB2];exact (aBs hs (Sr.neg hs)).mono Ag
 have e:bY (q-q)=0:=by rw[Rat.sub_self];unfold bY;exact if_pos (by unfold nu;simp)
 refine f0C ok D.q39 rfl ?_;conv=>whnf
 repeat' ((first|(show CN _ _ _ _ _ _;first|(refine CN.f rfl (aHx _ _ _ _ _ _ _ Ab Ab y1 y1) (fun v h' hl hr=>?_);obtain⟨e1,e2,rfl,hq'⟩:=hr)|refine CN.quiet rfl (aM2 _ _ _ _ Ab y3) ?_)|((first|apply oI.z|apply cI.z))|intro (_:Nat)|(show LdN _ _ _ _ _;first|refine LdN.o 0 rfl rfl ?_|refine LdN.o 1 rfl rfl ?_))<;>conv=>whnf)
 exact RN.a (by rw[e])
theorem aWy(u:VW)(h:aA)(a b c d:Sl)(w:rP h a b u)(w2:rP h c d u):
  Fn0 T F.q18 [.agg #[.bool u.2.1,a.val,b.val],.agg #[.bool u.2.1,c.val,d.val]] h fun v h'=>v=.bool true:=by
 have c1:=fun h w=>tT h u.2.1 a b u.2.2.1 u.2.2.2 w
 have c2:=fun h w=>tT h u.2.1 c d u.2.2.1 u.2.2.2 w
 have y:=aL9 w;have v1:=w.1;have v2:=w2.1;obtain⟨q,hq⟩:=AE (aK u.2.1 u.2.2.1 u.2.2.2);rw[<-hq] at y;simp only[<-hq] at c1 c2;clear hq;refine f0C ok D.q18 rfl ?_;conv=>whnf
 repeat' first|((first|(show DrN _ _ _ _ _ _;refine DrN.each Al ?_)|(show CN _ _ _ _ _ _;first|(refine CN.f rfl (c1 _ (v1.mono Ad)) (fun v h' hl hr=>?_);obtain⟨x1,x2,rfl,g1⟩:=hr)|(refine CN.f rfl (c2 _ (v2.mono Ab)) (fun v h' hl hr=>?_);obtain⟨x3,x4,rfl,g2⟩:=hr)|(refine CN.f rfl (aYb _ _ _ _ _ q (by (iterate 30 try first|assumption|refine IsQ.mono ?_ Ab);first|done|assumption) Ab y) (fun v h' hl hr=>?_);subst hr))|((first|apply oI.z|apply cI.z))|refine⟨fun _=>aF.o (aA.lr _),?_⟩|refine⟨fun _=>aF.o Ab,?_⟩|intro (_:Nat)|(show LdN _ _ _ _ _;first|refine LdN.o 0 rfl rfl ?_|refine LdN.o 1 rfl rfl ?_))<;>conv=>whnf)|(refine kM.mk ?_ ?_<;>(conv=>whnf))
 all_goals exact RN.a (congrArg Value.bool (by unfold eq;simp))
end Go.Proofs.YtiohcpiloenmoaaGreatDoor
/- Values that come in, opened: their raw numbers as they stand. -/
namespace Go.Proofs.YtiohcpiloenmoaaGreatDoor
open Go Go.Proofs.Y Go.Vc Go.Dig Go.ChangeShapes Go.WideShapes Go.ChangeAt Go.RowKit
theorem yN:Tryz.prog.cellsOf 33=4:=by kernel_rfl
theorem oO.of{h:aA}{c:Array Value}:∀(us:List VW) (off:Nat),(∀j u,us[j]?=some u->c[off+j*4]?=some (.string (txt u.1))/\(∀y∈u.1,y<256)/\∃a b:Sl,(∀i v,[Value.bool u.2.1,a.val,b.val][i]?=some v->c[off+j*4+1+i]?=some v)/\rP h a b u)->oO h c off us
 | [],_,_=>trivial
 | u::us,off,g=>by
  refine⟨?_,oO.of us (off+4) fun j u' hb=>?_⟩
  .have:=g 0 u rfl
   rwa [bAs,bAg] at this
  .have:=g (j+1) u' (by simpa using hb)
   rwa [show off+(j+1)*4=off+4+j*4 by omega] at this
theorem aCy{H:Type}{enc:TypeId × Value->H}{w:World}{n:Nat}{c0:Value}{d:DataW H}{p:List MemPlace}(f:DataW.trod enc Tryz.prog w 0 (fun _=>true) true n 28 [c0]=some (d,p))(hb:Rows.uptoBulk d<=1048576):∃(s:Sl) (bs:List VW),c0=s.val/\IsW (eO w) s bs/\bs.length<=1048576:=by
 rcases DataW.trod_slice Tryz.underlying28 f with ⟨e4,-⟩|⟨ad,len',cap',elems,rest,n',rfl,e4,e5,-,hlc,hcm,hel,hk,-,-⟩
 .exact⟨⟨none,0,0⟩,[],(List.cons.inj e4).1,⟨rfl,aZt _,.inl rfl⟩,aZs _⟩
 .have ev:=(List.cons.inj e4).1;have hbl:Rows.uptoBulkAll (elems.map (·.1))<=1048576:=by
   have e6:=(Prod.mk.inj e5).1;rw[e6] at hb;simp only[Rows.uptoBulk] at hb;omega
  have hk':∀i,i<len'->∃(b:VW) (vs:List Value),w.cells? 0 (ad.add (i*4)) 4=some vs/\vs[0]?=some (.string (txt b.1))/\(∀y∈b.1,y<256)/\∃a c:Sl,vs.drop 1=[.bool b.2.1,a.val,c.val]/\rP (eO w) a c b:=fun i hi=>by
   have h1:=hk i hi;rw[yN,aY4 Aa,Option.bind_eq_some_iff] at h1;obtain⟨vs,h2,h3⟩:=h1;obtain⟨y0,y1,m,hx,hlen,g0,g1⟩:=trod_struct2 Tryz.underlying33 h3;have hl4:vs.length=4:=by rw[yN] at hlen;exact hlen
   rw[show (Tryz.prog.cellsOf 9)=1 from aEe] at g0;rw[show (Tryz.prog.cellsOf 24)=3 from aEd] at g1;obtain⟨c0,c1,c2,c3,hvs⟩:∃c0 c1 c2 c3,vs=[c0,c1,c2,c3]:=by
    match vs,hl4 with
    | [c0,c1,c2,c3],_=>exact⟨c0,c1,c2,c3,rfl⟩
   subst hvs;have g0':DataW.trod enc Tryz.prog w 0 (fun _=>true) true m 9 [c0]=some y0:=g0
   have g1':DataW.trod enc Tryz.prog w 0 (fun _=>true) true m 24 [c1,c2,c3]=some y1:=g1
   obtain⟨s,e3,rfl,hs⟩:=DataW.trod_string Tryz.underlying9 g0';obtain⟨ng,a,b,l,mm,dn,dm,e2,wa,wb,ba,bb,hd,pa,pb,-⟩:=aEb (enc:=enc) (base:=0) (v:=.agg #[c1,c2,c3]) (d:=y1.1) (p:=y1.2) ⟨_,rfl⟩ ⟨m,g1'⟩;have e2':=congrArg Array.toList (Value.agg.inj e2);obtain⟨hn1,hn2⟩:=aOp s;refine⟨(s.data.toList.map (·.toNat),ng,l,mm),_,h2,?_,hn2,a,b,e2',?_⟩
   .rw[List.getElem?_cons_zero,(List.cons.inj e3).1];exact congrArg some (congrArg Value.string hn1)
   .have hm:Rows.uptoBulk (elems[i]'(Aa)).1<=1048576:=aZr (xM (aZu (bBb _))) hbl;rw[hx] at hm;simp only[Rows.uptoBulk,Rows.uptoBulkAll,hd] at hm;have q1:=sL pa;have q2:=sL pb;exact⟨⟨wa,wb,ba,bb,by show l.length<=_;omega,by show mm.length<=_;omega⟩,by show l.length<=_;omega,by show mm.length<=_;omega⟩
  have hch:∀i,∃b:VW,i<len'->∃vs:List Value,w.cells? 0 (ad.add (i*4)) 4=some vs/\vs[0]?=some (.string (txt b.1))/\(∀y∈b.1,y<256)/\∃a c:Sl,vs.drop 1=[.bool b.2.1,a.val,c.val]/\rP (eO w) a c b:=fun i=>by
   by_cases hi:i<len'
   .obtain⟨b,g⟩:=hk' i hi;exact⟨b,fun _=>g⟩
   .exact⟨([],false,[],[]),fun x=>absurd x hi⟩
  obtain⟨f,hF⟩:=Classical.axiomOfChoice hch;have hlb:len'<=1048576:=by
   have:=xL (elems.map (·.1));rw[aZp,hel] at this;omega
  refine⟨⟨some ad,len',cap'⟩,(List.range len').map f,ev,⟨by simp,hlc,?_⟩,by simpa using hlb⟩
  rcases bAx len' with h0|h0
  .left;rw[h0];rfl
  .right
   obtain⟨bl,off,spot⟩:=ad;obtain⟨vs0,g0,-⟩:=hF 0 h0;have c0:=(eR g0).2 0 Aa;have l0:=(eR g0).1;rw[aY4 Aa,bAs] at c0;rw[show Addr.add (Addr.add ⟨bl,off,spot⟩ 0) 0=⟨bl,off,spot⟩ from rfl] at c0;obtain⟨hsp,c,T,fz,hc,-⟩:=nG c0
   change spot=none at hsp
   subst hsp;refine⟨bl,off,c,T,fz,rfl,hc,oO.of _ _ fun i bn hb=>?_⟩
   rw[bB6] at hb;obtain⟨i',hi',hb⟩:=Option.map_eq_some_iff.1 hb;obtain⟨hil,rfl⟩:i<len'/\i=i':=by
    rcases bAn i len' with q|q
    .rw[List.getElem?_range q] at hi';exact⟨q,Option.some.inj hi'⟩
    .rw[aZ1 (by simpa using q)] at hi';cases hi'
   obtain⟨vs,g1,g2,g3,a,b,g4,g5⟩:=hF i hil;rw[hb] at g2 g3 g4 g5;obtain⟨l1,g6⟩:=eR g1;have cell:∀j,j<4->c[off+i*4+j]?=vs[j]?:=fun j hj=>by
    have c1:=g6 j hj;rw[pO,pO,aY4 Aa] at c1;obtain⟨-,c',T',fz',hc',hv⟩:=nG c1;rw[hc] at hc';cases hc';rw[hv,aY4 Aa]
   refine⟨?_,g3,a,b,fun j v hv=>?_,g5⟩
   .have:=cell 0 Aa;rw[bAg] at this;rw[this,g2]
   .have hj:j<3:=(aY5.1 hv).1;have:=cell (1+j) Aa;rw[<-bA6] at this;rw[this,<-bBt,g4,hv]
theorem aCz{h:aA}{v:Value}(i:In h 28 v):∃(s:Sl) (bs:List VW),v=s.val/\IsW h s bs/\bs.length<=1048576:=by
 obtain⟨w,H,enc,base,d,p,rfl,hval,⟨n,hn⟩,hb⟩:=i.raw;obtain⟨a,len,cap,rfl⟩:=okWide_slice Tryz.underlying28 hval;exact aCy (c0:=.slice a len cap) hn hb
end Go.Proofs.YtiohcpiloenmoaaGreatDoor
/- No function changes its arguments: the law ExprKept. -/
namespace Go.Proofs.YtiohcpiloenmoaaGreatDoor
open Go Go.Proofs.Y Go.Vc Go.Dig
attribute [local irreducible] Vc.Fn FnP
def pX(bs:List (List Nat × Option Rat)):List (List Nat × Tr):=bs.map fun b=>(b.1,(aHa b.2).1)
theorem aC0(bs:List (List Nat × Option Rat))(hbl:bs.length<=1048576)(sb:Sl)(h:aA)(tb:Tb h)(wb:IsV h sb bs):Fn0 T F.q15 [sb.val] h fun v h'=>∃s:Sl,v=s.val/\IsB h' s (pX bs):=by
 have hsl:=wb.len;have hll:(pX bs).length=bs.length:=by unfold pX;simp
 refine f0C ok D.q15 rfl ?_;conv=>whnf
 repeat ((first|apply oI.z|apply cI.z);conv=>whnf)
 skip
 refine LpN.of (fun r ρ hx L=>∃(j:Nat) (V:Value) (F1:Vc.Own) (xs:List Value),r=bs.length-j/\h.le hx/\j<=bs.length/\rd ρ 4=.int .i64 j/\rd ρ 3=V/\L=F1++[]/\aE 87 8 V j xs F1/\BC hx xs (pX (bs.take j))) bs.length
  ⟨0,_,[],[],rfl,aA.lr _,aZs _,rfl,rfl,rfl,aE.nil _ _ _,rfl⟩ ?_
 conv=>whnf
 repeat intro _
 rename_i r hx L2 hI;obtain⟨j,V,F1,xs,rfl,hle,hj,e4,e3,rfl,gF,hK⟩:=hI;conv at e4=>lhs;whnf
 subst e4;conv at e3=>lhs;whnf
 subst e3;by_cases hjl:j=bs.length
 .subst hjl;rw[aZi] at hK;conv=>whnf
  repeat' ((first|((first|apply oI.z|apply cI.z))|(apply aB<;>intro _<;>try (exfalso;omega)))<;>conv=>whnf)
  exact RN.rowB gF hK hll.symm fun h' s' hl hs hb=>⟨s',hs,hb⟩
 .obtain⟨⟨n,x⟩,hu⟩:∃x,bs[j]?=some x:=⟨_,aY4 Aa⟩
  have wbx:=wb.mono hle;have hnb:=wb.bytes hu;have c1:=fun h tb n a b w=>aHb h tb n a b x w
  have htk:pX (bs.take (j+1))=pX (bs.take j)++[(n,(aHa x).1)]:=by
   rw[bB hu];unfold pX;rw[aZh];rfl
  obtain⟨⟨Y,er⟩,hY⟩:=AE (aHa x);simp only[<-hY] at c1 htk;replace c1:∀h,Tb h->∀n (a b:Sl),bL h n a b x->Fn0 T F.q37 [.agg #[.bool n,a.val,b.val]] h fun v h'=>∃a,v=.tuple #[a,.int .i64 er]/\VE h' a Y:=c1
  conv=>whnf
  repeat' ((first|(show LdN _ _ _ _ _;first|refine LdN.oA 0 rfl rfl ?_|(refine LdN.hasN [.bool ng,a2.val,b2.val] rfl (fun i v hv=>h2 _ _ i v Ad hv) ?_))|(show DrN _ _ _ _ _ _;refine DrN.own [_] (by exact List.Sublist.cons_cons _ (bAd _)) Al ?_)|(refine⟨fun _=>⟨aF.o Am,by first|exact List.Sublist.cons_cons _ (bAd _)|exact List.Sublist.cons _ (List.Sublist.cons_cons _ (bAd _))|repeat first|exact bAd _|apply List.Sublist.cons_cons|refine List.Sublist.trans ?_ (bAe _ _)|apply List.Sublist.cons⟩,?_⟩)|((first|apply oI.z|apply cI.z))|intro (_:Nat)|(show Idx _ _ _ _ _;refine Idx.valu wbx j n x Aa hu (fun bl off ng a2 b2 hnn hE h1 h2=>?_))|(show Ld _ _ _ _;refine Ld.of (h1 _ _ Ab) ?_)|(show CN _ _ _ _ _ _;(refine CN.f rfl (c1 _ Ae _ _ _ Ab) (fun v h' hl2 hr=>?_);obtain⟨_,rfl,op4,ar4,ng4,nn4,dd4,nm4,ss4,rfl,hE4⟩:=hr;have hK2:=hK.mono hl2))|(show App _ _ _ _ _ _ _ _ _;refine App.growK (A:=[_,_]) (F:=F1) (size:=8) (bytes:=128) (z:=[.string (txt []),.int .i64 0,.int .i64 0,.bool false,.slice none 0 0,.slice none 0 0,.string (txt []),.slice none 0 0]) rfl rfl gF ⟨_,0,none⟩ 1 1 [_,_,_,_,_,_,_,_] rfl (Has.front _) rfl Ag Aa Aa Ag (fun v' F' g'=>?_))|refine WN.i64 Aa Aa ?_|refine Sto.l 0 rfl rfl rfl ?_|(apply aB<;>intro _<;>try (exfalso;omega)))<;>conv=>whnf)
  all_goals exact⟨rfl,bs.length-(j+1),Aa,j+1,_,_::_::F',_,rfl,Ac,Aa,vi Aa,rfl,rfl,(g'.cons _).cons _,by rw[htk];exact BC.snoc hnb rfl hE4 hK2⟩
theorem aQ0(h:aA)(tb:Tb h)(pw:Pw h)(t:Tr)(vs:List Value)(w:IsE h vs t)(s:Sl)(us:List VW)(wu:IsW h s us)(hul:us.length<=1048576):Fn0 T F.q3 [.agg vs.toArray,s.val] h fun v h'=>v=.bool true:=by
 have c0:=fun h w=>aKw t h vs w
 have c9:=fun h tb pw=>aSt h tb pw
 by_cases hv:aS t
 rotate_left
 .rw[aG hv] at c0;obtain⟨⟨o1,g1,e1,l1,m1,i1,ks1⟩,ht⟩:=AE t;obtain⟨a1,b1,z1,hvs,-⟩:=(ht.symm▸w:IsE h vs (.mk o1 g1 e1 l1 m1 i1 ks1)).isK;subst hvs;clear ht;refine f0C ok D.q3 rfl ?_;conv=>whnf
  repeat' ((first|(show LdN _ _ _ _ _;refine LdN.oA 0 rfl rfl ?_)|(show CN _ _ _ _ _ _;first|(refine CN.f rfl (c0 _ (w.mono Ad)) (fun v h' hl hr=>?_);subst hr)|(refine CN.f rfl (c9 _ Ae (pw.mono Ab)) (fun v h' hl hr=>?_);subst hr))|((first|apply oI.z|apply cI.z))|intro (_:Nat))<;>conv=>whnf)
  all_goals exact RN.a rfl
 have hsl:=wu.len;have hul2:(vwV us).length<=1048576:=by unfold vwV;rw[aZp];exact hul
 have c1:=fun h vs w=>aL8 t 1 hv.1 h vs w
 have cS:∀h vs,Tb h->IsE h vs t->Fn0 T F.q8 [.agg vs.toArray] h fun _ _=>True:=fun h vs tb w=>(aFj t h vs tb w).mono fun _ _ _ _=>trivial
 have cD:∀h vs,Tb h->IsE h vs t->Fn0 T F.q9 [.agg vs.toArray,.string (txt [120])] h fun _ _=>True:=fun h vs tb w=>(aL6 t [120] Ag h vs tb w).mono fun _ _ _ _=>trivial
 have cB:∀h vs,Tb h->IsE h vs t->Fn0 T F.q10 [.agg vs.toArray] h fun _ _=>True:=fun h vs tb w=>(aL7 t h vs tb w).mono fun _ _ _ _=>trivial
 have cP:∀h vs,Tb h->Pw h->IsE h vs t->Fn0 T F.q11 [.agg vs.toArray] h fun _ _=>True:=fun h vs tb pw w=>(aT7 t h vs tb pw w).mono fun _ _ _ _=>trivial
 have cT:∀h vs,Tb h->Pw h->IsE h vs t->Fn0 T F.q12 [.agg vs.toArray] h fun _ _=>True:=fun h vs tb pw w=>(aD8 t h vs tb pw w).mono fun _ _ _ _=>trivial
 have cV:∀h vs (sb:Sl),Tb h->IsW h sb us->IsE h vs t->Fn0 T F.q13 [.agg vs.toArray,sb.val] h fun _ _=>True:=fun h vs sb tb wb w=>(aQw (vwV us) Aa sb t h vs tb wb.isv w).mono fun _ _ _ _=>trivial
 have cL:=fun h (sb:Sl) tb (wb:IsW h sb us)=>aC0 (vwV us) hul2 sb h tb wb.isv
 have cU:∀h vs (sb:Sl),Tb h->IsB h sb (pX (vwV us))->IsE h vs t->Fn0 T F.q14 [.agg vs.toArray,sb.val] h fun _ _=>True:=fun h vs sb tb wb w=>(aQn (pX (vwV us)) (by unfold pX;rw[aZp];omega) sb t h vs tb wb w).mono fun _ _ _ _=>trivial
 have cW:∀h vs,Tb h->IsE h vs t->Fn0 T F.q16 [.agg vs.toArray,.string (txt [120]),.string (txt [121])] h fun _ _=>True:=fun h vs tb w=>(aTe t [120] [121] h vs tb w Ag Ag).mono fun _ _ _ _=>trivial
 have cE:∀h vs us,IsE h vs t->IsE h us t->Fn0 T F.q17 [.agg vs.toArray,.agg us.toArray] h fun v h'=>v=.bool true:=fun h vs us w w'=>(aTc t t h vs us 1 1 w w' hv.1 hv.1).mono fun v h' _ r=>r.trans (by rw[aAl.2 rfl])
 rw[aW hv] at c0;obtain⟨W1,hW1⟩:=AE (pX (vwV us));simp only[<-hW1] at cL cU;clear hv hW1 hul2;obtain⟨⟨o1,g1,e1,l1,m1,i1,ks1⟩,ht⟩:=AE t;obtain⟨a1,b1,z1,hvs,-⟩:=(ht.symm▸w:IsE h vs (.mk o1 g1 e1 l1 m1 i1 ks1)).isK;subst hvs;clear ht;refine f0C ok D.q3 rfl ?_;conv=>whnf
 repeat' ((first|(show LdN _ _ _ _ _;refine LdN.oA 0 rfl rfl ?_)|(show CN _ _ _ _ _ _;first|(refine CN.f rfl (c0 _ (w.mono Ad)) (fun v h' hl hr=>?_);subst hr)|(refine CN.f rfl (c1 _ _ (w.mono Ab)) (fun v h' hl hr=>?_);obtain⟨op2,ar2,ng2,nn2,dd2,nm2,ss2,rfl,hE⟩:=hr))|((first|apply oI.z|apply cI.z))|intro (_:Nat)|refine Sto.l 0 rfl rfl rfl ?_)<;>conv=>whnf)
 rename_i be ha hla bo;have hE0:=hE;refine LpN.of (fun r ρ hx L=>∃(j:Nat) (V:Value) (F1:Vc.Own) (xs:List Value),r=us.length-j/\h'.le hx/\j<=us.length/\rd ρ 7=.int .i64 j/\rd ρ 6=V/\
   L=F1++((bo,.cells [.int .i64 op2,.int .i64 ar2,.bool ng2,nn2.val,dd2.val,.string (txt nm2),ss2.val].toArray Ty.api_Expr (0,0))::(be,.cells [.int .i64 o1,.int .i64 g1,.bool e1,a1.val,b1.val,.string (txt i1),z1.val].toArray Ty.api_Expr (0,0))::[])/\
   aE 33 4 V j xs F1/\VC hx xs (us.take j)) us.length
  ⟨0,_,[],[],rfl,aA.lr _,aZs _,rfl,rfl,rfl,aE.nil _ _ _,by rw[bAt];rfl⟩ ?_
 conv=>whnf
 repeat intro _
 rename_i r hx L2 hI;obtain⟨j,V,F1,xs,rfl,hle,hj,e7,e6,rfl,gF,hK⟩:=hI;conv at e7=>lhs;whnf
 subst e7;conv at e6=>lhs;whnf
 subst e6;have hEx:=hE.mono hle;by_cases hjl:j=us.length
 .rw[hjl,aZi] at hK;conv=>whnf
  repeat' ((first|(show LdN _ _ _ _ _;first|refine LdN.tl (A:=[]) (F:=F1) rfl ?_|refine LdN.tl (A:=[]) (F:=F2) rfl ?_|refine LdN.tl3 (A:=[]) (F:=F2) (G:=[_]) rfl ?_)|(show CN _ _ _ _ _ _;first|(refine CN.growW gF hK hjl rfl (fun hg s5 F2 hlg e5 wK=>?_);subst e5;refine CN.f rfl (cS _ _ Ae (hEx.mono Ab)) (fun v h' hl hr=>?_);clear hr)|(refine CN.f rfl (cD _ _ Ae (hEx.mono Ac)) (fun v h' hl hr=>?_);clear hr)|(refine CN.f rfl (cB _ _ Ae (hEx.mono Ac)) (fun v h' hl hr=>?_);clear hr)|(refine CN.f rfl (cP _ _ Ae (pw.mono Ac) (hEx.mono Ac)) (fun v h' hl hr=>?_);clear hr)|(refine CN.f rfl (cT _ _ Ae (pw.mono Ac) (hEx.mono Ac)) (fun v h' hl hr=>?_);clear hr)|(refine CN.f rfl (cV _ _ s5 Ae (wK.mono Ac) (hEx.mono Ac)) (fun v h' hl hr=>?_);clear hr)|(refine CN.f rfl (cL _ s5 Ae (wK.mono Ac)) (fun v h' hl hr=>?_);obtain⟨s6,rfl,wB⟩:=hr)|(refine CN.f rfl (cU _ _ s6 Ae (wB.mono Ad) (hEx.mono Ac)) (fun v h' hl hr=>?_);clear hr)|(refine CN.f rfl (cW _ _ Ae (hEx.mono Ac)) (fun v h' hl hr=>?_);clear hr)|(refine CN.f rfl (cE _ _ _ (hEx.mono Ac) (w.mono Ac)) (fun v h' hl hr=>?_);subst hr))|((first|apply oI.z|apply cI.z))|refine⟨fun _=>aF.o Ab,?_⟩|refine DrN.run Al ?_|(apply aB<;>intro _<;>try (exfalso;omega)))<;>conv=>whnf)
  rename_i h9 hl9;refine LpN.keepL (fun r ρ hx=>∃j:Nat,r=us.length-j/\j<=us.length/\rd ρ 8=.int .i64 j) us.length ⟨0,rfl,aZs _,rfl⟩ ?_
  conv=>whnf
  repeat intro _
  rename_i r hy hle2 hI;obtain⟨j2,rfl,hj2,e8⟩:=hI;conv at e8=>lhs;whnf
  subst e8;by_cases hj3:j2=us.length
  .conv=>whnf
   repeat' ((first|(show CN _ _ _ _ _ _;(refine CN.f rfl (c9 _ Ae (pw.mono Ac)) (fun v h' hl hr=>?_);subst hr))|((first|apply oI.z|apply cI.z))|(apply aB<;>intro _<;>try (exfalso;omega)))<;>conv=>whnf)
   all_goals exact RN.a rfl
  .obtain⟨u,hu⟩:∃u,us[j2]?=some u:=⟨_,aY4 Aa⟩
   have w5:IsW hy s5 us:=wK.mono Ac;have w6:IsW hy s us:=wu.mono Ac;conv=>whnf
   repeat' first|((first|(show Idx _ _ _ _ _;first|refine Idx.valw w5 j2 u Aa hu (fun bl off a4 b4 hnn hN h1 h2=>?_)|refine Idx.valw w6 j2 u Aa hu (fun bl off a5 b5 hnn hN5 h3 h4=>?_))|(show Ld _ _ _ _;first|(refine Ld.of (h3 _ _ Ad) ?_)|(refine Ld.of (h1 _ _ Ad) ?_))|(show LdN _ _ _ _ _;first|(refine LdN.hasN [.bool u.2.1,a5.val,b5.val] rfl (fun i v hv=>h4 _ _ i v Ad hv) ?_)|(refine LdN.hasN [.bool u.2.1,a4.val,b4.val] rfl (fun i v hv=>h2 _ _ i v Ad hv) ?_))|(show CN _ _ _ _ _ _;(refine CN.f rfl (aWy u _ _ _ _ _ (hN.mono Ad) (hN5.mono Ad)) (fun v h' hl hr=>?_);subst hr))|((first|apply oI.z|apply cI.z))|refine⟨fun _=>aF.o Ab,?_⟩|refine WN.i64 Aa Aa ?_|refine DrN.run Al ?_)<;>conv=>whnf)|(show cnd _ _ _;first|(apply aB<;>intro _<;>first|(exfalso;omega)|conv=>whnf)|(refine aI ?_)|(refine bQ (fun _=>?_) (fun _=>?_)<;>(conv=>whnf)))
   all_goals first
    | exact⟨rfl,us.length-(j2+1),Aa,Ac,rfl,j2+1,rfl,Aa,vi Aa⟩
    | (rename_i x9;exact absurd (beq_self_eq_true _) (by unfold seq at x9;rw[x9];decide))
 .obtain⟨u,hu⟩:∃u,us[j]?=some u:=⟨_,aY4 Aa⟩
  have wux:=wu.mono (aA.lt (aA.lt hla hl) hle);have c2:=fun h a b (x:rP h a b u)=>aFm h u.2.1 a b u.2.2.1 u.2.2.2 x.1
  conv=>whnf
  repeat' ((first|(show DrN _ _ _ _ _ _;refine DrN.own [] (by exact bAd _) Al ?_)|(refine⟨fun _=>⟨aF.o Am,by first|exact bAd _⟩,?_⟩)|((first|apply oI.z|apply cI.z))|intro (_:Nat)|(show Idx _ _ _ _ _;refine Idx.valw wux j u Aa hu (fun bl off a4 b4 hnn hN h1 h2=>?_))|(show LdN _ _ _ _ _;(refine LdN.hasN [.bool u.2.1,a4.val,b4.val] rfl (fun i v hv=>h2 _ _ i v Ad hv) ?_))|(show Ld _ _ _ _;(refine Ld.of (h1 _ _ Ad) ?_))|(show CN _ _ _ _ _ _;(refine CN.f rfl (c2 _ _ _ (hN.mono Ad)) (fun v h' hl2 hr=>?_);obtain⟨a6,b6,rfl,hv6,-,-⟩:=hr))|(show App _ _ _ _ _ _ _ _ _;refine App.growK (A:=[_]) (F:=F1) (size:=4) (bytes:=72) (z:=[.string (txt []),.bool false,.slice none 0 0,.slice none 0 0]) rfl rfl gF ⟨_,0,none⟩ 1 1 [_,_,_,_] rfl (Has.front _) rfl Ag Aa Aa Ag (fun v' F' g'=>?_))|refine WN.i64 Aa Aa ?_|(apply aB<;>intro _<;>try (exfalso;omega)))<;>conv=>whnf)
  all_goals exact⟨rfl,us.length-(j+1),Aa,j+1,_,_::F',_,rfl,Ac,Aa,vi Aa,rfl,rfl,g'.cons _,by rw[bB hu];exact VC.snoc hnn ⟨hv6.mono Ad,hN.2⟩ (hK.mono Ab)⟩
end Go.Proofs.YtiohcpiloenmoaaGreatDoor