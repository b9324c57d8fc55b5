/- Swap: plain. -/
import Derived.Test.YtiohcpiloenmoaaGreatDoorE33
import Derived.RangeFuncNested
import Derived.RangeFuncBound
import Derived.RangeFuncCalls
import Derived.RangeFuncLeaves
import Derived.RangeFuncFrom
import Derived.Shelf.Abstract
import Derived.Shelf.RegionOpen
import Derived.OwnWalkIn
import Derived.TacticsInMore
import Derived.LoopNIn
import Derived.LoopIn
import Derived.Test.YtiohcpiloenmoaaGreatDoorPW9
set_option linter.all false
set_option maxHeartbeats 2000000
set_option maxRecDepth 100000
namespace Go.Proofs.Y
open Go Go.Vc Go.Dig
def sw(a b n:List Nat):List Nat:=if n=a then b else if n=b then a else n
def byP(a b:List Nat):Tr->Option Tr
 | .mk op arg neg l m name ks=>if op=2 then some (.mk op arg neg l m (sw a b name) ks) else none
def aPf:List (List Nat × Tr)->List Nat->Tr->Tr
 | [],_,t=>t
 | (n,u)::bs,name,t=>if n=name then u else aPf bs name t
def byR(bs:List (List Nat × Tr)):Tr->Option Tr
 | .mk op arg neg l m name ks=>if op=2 then some (aPf bs name (.mk op arg neg l m name ks)) else none
theorem aXz{a b n:List Nat}(ha:dH a)(hb:dH b)(hn:dH n):dH (sw a b n):=by
 unfold sw
 split
 .exact hb
 .split
  .exact ha
  .exact hn
mutual
theorem aIu{a b:List Nat}(ha:dH a)(hb:dH b):∀{d:Nat} {t:Tr},okT d t->okT d (jJ (byP a b) t)
 | d,.mk op arg neg l m name ks,h=>by
  rw[okT] at h;obtain⟨hd,hn,hk⟩:=h;by_cases o:op=2
  .rw[kV (show byP a b (.mk op arg neg l m name ks)=_ from if_pos o),okT];refine⟨hd,⟨hn.1,hn.2.1,hn.2.2.1,?_,hn.2.2.2.2⟩,hk⟩;have:=hn.2.2.2.1;rw[if_pos o] at this ⊢;exact aXz ha hb this
  .rw[jQ (show byP a b (.mk op arg neg l m name ks)=none from if_neg o),okT];exact⟨hd,⟨by rw[qO];exact hn.1,hn.2⟩,aEl ha hb hk⟩
theorem aEl{a b:List Nat}(ha:dH a)(hb:dH b):∀{d:Nat} {ts:List Tr},bZ d ts->bZ d (dK (byP a b) ts)
 | _,[],_=>by rw[dK,bZ];trivial
 | d,t::ts,h=>by
  rw[bZ] at h;rw[dK,bZ];exact⟨aIu ha hb h.1,aEl ha hb h.2⟩
end
mutual
theorem aIv(a b:List Nat):∀{t:Tr},szT (jJ (byP a b) t)=szT t
 | .mk op arg neg l m name ks=>by
  by_cases o:op=2
  .rw[kV (show byP a b (.mk op arg neg l m name ks)=_ from if_pos o),szT,szT]
  .rw[jQ (show byP a b (.mk op arg neg l m name ks)=none from if_neg o),szT,szT,aEm]
theorem aEm(a b:List Nat):∀{ts:List Tr},dA (dK (byP a b) ts)=dA ts
 | []=>by rw[dK]
 | t::ts=>by rw[dK,dA,dA,aIv,aEm]
end
theorem aTd{a b:List Nat}(ha:dH a)(hb:dH b){t:Tr}(h:aS t):aS (jJ (byP a b) t):=⟨aIu ha hb h.1,by rw[aIv];exact h.2⟩
def qW(a b:List Nat)(t:Tr):Tr × Nat:=if ¬aS t then (aL,40) else if ¬(dH a/\dH b) then (aL,41) else (fX (jJ (byP a b) t),0)
theorem aPg{a b:List Nat}{t:Tr}(h1:aS t)(h2:dH a/\dH b):qW a b t=(fX (jJ (byP a b) t),0):=by
 unfold qW;have g1:¬¬aS t:=fun x=>x h1
 have g2:¬¬(dH a/\dH b):=fun x=>x h2
 rw[if_neg g1,if_neg g2]
end Go.Proofs.Y
/- Nodes replaced: the program's replaced, Swap; the document's subst, Swap; the law. -/
namespace Go.Vc
open Go Go.Dig
theorem CN.keep12{T:Tab}{f:FuncId}{args:List Value}{h:aA}{k:Value->aA->Vc.Own->Prop}{x:Nat × Obj}{b c:Nat}{p q:Obj}{tl:Vc.Own}(hf:T.fn f=true)
  (hk:∀h',h.le h'->h' b=some p->h' c=some q->CN T f args h' (x::tl) k):CN T f args h (x::(b,p)::(c,q)::tl) k:=
 CN.keep 1 rfl hf fun h1=>CN.keep 1 rfl hf fun h2=>hk _ (aA.lt h1 h2) (h2 _ _ AB) AB
theorem CN.keep0{T:Tab}{f:FuncId}{args:List Value}{h:aA}{k:Value->aA->Vc.Own->Prop}{b:Nat}{p:Obj}{tl:Vc.Own}(hf:T.fn f=true)
  (hk:∀h',h.le h'->h' b=some p->CN T f args h' tl k):CN T f args h ((b,p)::tl) k:=
 CN.keep 0 rfl hf fun h1=>hk _ h1 AB
theorem sR{ws:List Nat}:∀{i:Nat} {ρ:Env} {p q:Env->Prop},(∀ρ',p ρ'->q ρ')->tL ws i ρ p->tL ws i ρ q
 | i,[],p,q,f,h=>f _ h
 | i,x::ρ,p,q,f,h=>by
  cases hc:ws.contains i with
  | true=>
   simp only[tL,hc] at h ⊢;exact fun y=>sR (fun ρ'=>f _) (h y)
  | false=>
   simp only[tL,hc] at h ⊢;exact sR (fun ρ'=>f _) h
theorem LpN.count{body:fQ->Env->aA->Vc.Own->Prop}{ws:List Nat}{Q:fQ}{ρ:Env}{h:aA}{L:Vc.Own}(s n:Nat)(P:Nat->Prop)(h0:rd ρ s=.int .i64 ((0:Nat):Int))(p0:P 0)
  (hr:tL ws 0 ρ fun ρ'=>∀j:Nat,j<=n->rd ρ' s=.int .i64 j->P j->body (fun e ρ'' h'' L''=>match e with|.normal=>ρ''=over ws 0 ρ ρ''/\∃m,m<n-j/\∃j':Nat,m=n-j'/\j'<=n/\rd ρ'' s=.int .i64 j'/\P j'/\h''=h/\L''=L|e=>Q e ρ'' h'' L'') ρ' h L):LpN body ws Q ρ h L:=by
 refine LpN.of (fun r ρ' h' L'=>∃j':Nat,r=n-j'/\j'<=n/\rd ρ' s=.int .i64 j'/\P j'/\h'=h/\L'=L) n ⟨0,rfl,aZs _,h0,p0,rfl,rfl⟩ ?_
 refine sR (fun ρ' x r h' L' hI=>?_) hr
 obtain⟨j,rfl,e2,e3,e4,rfl,rfl⟩:=hI;exact x j e2 e3 e4
theorem LpN.keepL{body:fQ->Env->aA->Vc.Own->Prop}{ws:List Nat}{Q:fQ}{ρ:Env}{h:aA}{L:Vc.Own}(I:Nat->Env->aA->Prop)(n0:Nat)(h0:I n0 ρ h)
  (hr:tL ws 0 ρ fun ρ'=>∀r h',h.le h'->I r ρ' h'->body (fun e ρ'' h'' L''=>match e with|.normal=>ρ''=over ws 0 ρ ρ''/\∃m,m<r/\h.le h''/\L''=L/\I m ρ'' h''|e=>Q e ρ'' h'' L'') ρ' h' L):LpN body ws Q ρ h L:=by
 refine LpN.of (fun r ρ' h' L'=>h.le h'/\L'=L/\I r ρ' h') n0 ⟨aA.lr _,rfl,h0⟩ ?_
 refine sR (fun ρ' x r h' L' hI=>?_) hr
 obtain⟨h1,rfl,h3⟩:=hI;exact x r h' h1 h3
theorem Ld.tl3{h:aA}{A F G tl:Vc.Own}{b off:Nat}{k:Value->Prop}{l:List Value}{T:TypeId}{v:Value}(hv:l[off]?=some v)(hk:k v):Ld h (A++(F++(G++(b,.cells l.toArray T (0,0))::tl))) ⟨b,off,none⟩ k:=
 ⟨v,⟨rfl,l.toArray,T,(0,0),.inr Ar,by simpa using hv⟩,hk⟩
theorem LdN.tl3{h:aA}{A F G tl:Vc.Own}{b o m:Nat}{k:Value->Prop}{l:List Value}{T:TypeId}(hl:Nat.ble (o+m) l.length=true)(hk:k (.agg ((l.drop o).take m).toArray)):LdN h (A++(F++(G++(b,.cells l.toArray T (0,0))::tl))) ⟨b,o,none⟩ m k:=
 have hle:=bCs hl
 ⟨(l.drop o).take m,by rw[aZn,aZz];omega,fun i hi=>by
   rw[aZ];refine⟨rfl,l.toArray,T,(0,0),.inr Ar,?_⟩;rw[aZx,aY3,bA5,if_pos hi,bBt,aY4 (show o+i<l.length by omega)]
   rfl,hk⟩
theorem Sto.tl3{A F G tl:Vc.Own}{b off:Nat}{vs l:List Value}{T:TypeId}{k:Vc.Own->Prop}(hl:Nat.ble (off+vs.length) l.length=true)(ho:vs.all eS=true)
  (hk:vU vs l off fun l=>k (A++(F++(G++(b,.cells l.toArray T (0,0))::tl)))):Sto (A++(F++(G++(b,.cells l.toArray T (0,0))::tl))) ⟨b,off,none⟩ vs k:=by
 have:=Sto.tl (A:=A) (X:=F++G) (tl:=tl) (b:=b) (off:=off) (vs:=vs) (l:=l) (T:=T) (k:=k) hl ho (by simpa[aY7] using hk)
 simpa[aY7] using this
end Go.Vc
namespace Go.Proofs.Y
open Go Go.Vc Go.Dig
def ByC(fb:FuncId)(cap:List Value)(g:Tr->Option Tr)(h0:aA):Prop:=
 ∀(u:Tr) (d:Nat) (h:aA) (vs:List Value),okT d u->h0.le h->IsE h vs u->Fn0 T fb (.agg vs.toArray::cap) h fun v h'=>∃a b x,v=.tuple #[a,.bool b]/\VE h' a x/\(b=true->g u=some x)/\(b=false->g u=none)
theorem aCf{fb:FuncId}{x y:Value}{g:Tr->Option Tr}(hf:T.fn fb=true)(h0:aA)(hby:ByC fb [x,y] g h0):∀t:Tr,∀(h:aA) (vs:List Value) (d:Nat),h0.le h->IsE h vs t->okT d t->Fn0 T F.q35 [.agg vs.toArray,.func (.func fb) #[] #[x,y]] h fun v h'=>VE h' v (jJ g t):=by
 refine dX fun t ih=>?_
 intro h vs d h0l w hok;obtain⟨op,arg,neg,l,m,name,ks⟩:=t;have c1:=fun h h0l w=>hby _ d h vs hok h0l w
 obtain⟨a,b,s,rfl,ho,ha,hv,hb,hk⟩:=w.isK;rw[okT] at hok;obtain⟨hd,hnb,hoks⟩:=hok;have hks:ks.length<=3:=by
  have h1:=hnb.1;have h2:=cR op;omega
 have hkl:=hk.len;have r1:∀u,g (.mk op arg neg l m name ks)=some u->jJ g (.mk op arg neg l m name ks)=u:=fun u e=>kV e
 have r2:g (.mk op arg neg l m name ks)=none->jJ g (.mk op arg neg l m name ks)=.mk op arg neg l m name (dK g ks):=jQ;obtain⟨R,hR⟩:=AE (jJ g (.mk op arg neg l m name ks));obtain⟨G,hG⟩:=AE (g (.mk op arg neg l m name ks));rw[<-hR] at r1 r2 ⊢;rw[<-hG] at c1 r1 r2;clear hR hG;refine f0C ok D.q35 rfl ?_;conv=>whnf
 repeat' first|((first|(show LdN _ _ _ _ _;first|(first|refine LdN.o 0 rfl rfl ?_|refine LdN.oA 0 rfl rfl ?_)|refine LdN.o 1 rfl rfl ?_)|(show CN _ _ _ _ _ _;(refine CN.f hf (c1 _ (by first|assumption|exact aA.lt h0l Ab) Ab) (fun v h' hl2 hr=>?_);obtain⟨_,bb,u,rfl,⟨op2,ar2,ng2,nn2,dd2,nm2,ss2,rfl,hE2⟩,g1,g2⟩:=hr))|((first|apply oI.z|apply cI.z))|intro (_:Nat)|refine Ld.o 2 rfl rfl ?_|(show Sto _ _ _ _;first|refine Sto.l 0 rfl rfl rfl ?_|refine Sto.l 1 rfl rfl rfl ?_))<;>conv=>whnf)|(refine bQ (fun hb=>?_) (fun hb=>?_)<;>(first|cases hb|subst hb)<;>(conv=>whnf))
 .rw[r1 _ (g1 rfl)];exact RN.a ⟨op2,ar2,ng2,nn2,dd2,nm2,ss2,rfl,hE2⟩
 .rw[r2 (g2 rfl)];clear r1 r2 g1 g2;rename_i be bz bn;have h0l':=aA.lt h0l hl2;refine LpN.of (fun r ρ hx L=>∃(j:Nat) (V:Value) (F1:Vc.Own) (xs:List Value),r=ks.length-j/\h'.le hx/\j<=ks.length/\rd ρ 21=.int .i64 j/\rd ρ 7=V/\
    L=F1++((bn,.cells [.int .i64 op2,.int .i64 ar2,.bool ng2,nn2.val,dd2.val,.string (txt nm2),ss2.val].toArray Ty.api_Expr (0,0))::(bz,.cells [.int .i64 0,.int .i64 0,.bool false,.slice none 0 0,.slice none 0 0,.string (txt []),.slice none 0 0].toArray Ty.api_Expr (0,0))::(be,.cells [.int .i64 op,.int .i64 arg,.bool neg,a.val,b.val,.string (txt name),s.val].toArray Ty.api_Expr (0,0))::[])/\
    aE Ty.api_Expr 7 V j xs F1/\KC hx xs (dK g (ks.take j))) ks.length
   ⟨0,_,[],[],rfl,aA.lr _,aZs _,rfl,rfl,rfl,aE.nil _ _ _,by rw[bAt,dK];rfl⟩ ?_
  conv=>whnf
  repeat intro _
  rename_i r hx L2 hI;obtain⟨j,V,F1,xs,rfl,hle,hj,e21,e7,rfl,gF,hK⟩:=hI;conv at e21=>lhs;whnf
  subst e21;conv at e7=>lhs;whnf
  subst e7;by_cases hjl:j=ks.length
  .subst hjl;rw[aZi] at hK;obtain⟨sv,rfl⟩:=gF.sl;conv=>whnf
   repeat' ((first|(show Sto _ _ _ _;first|refine Sto.tl (A:=F1) (X:=[_,_]) rfl rfl ?_|refine Sto.tl (A:=F1) (X:=[_]) rfl rfl ?_)|(show LdN _ _ _ _ _;first|refine LdN.tl (A:=F1) (F:=[_,_]) rfl ?_|refine LdN.tl (A:=F1) (F:=[_]) rfl ?_)|((first|apply oI.z|apply cI.z))|(apply aB<;>intro _<;>try (exfalso;omega)))<;>conv=>whnf)
   refine RN.rowA (X:=F1) gF hK (qO g ks).symm fun h'' s' hl hs hk'=>?_
   rw[hs];exact⟨op,arg,neg,a,b,name,s',rfl,IsE.mkK ho ha (((hv.mono hl2).mono hle).mono hl) hb hk'⟩
  .obtain⟨t,ht⟩:∃t,ks[j]?=some t:=⟨_,aY4 Aa⟩
   have c2:=fun h vs h0l w=>ih t (bM ht) h vs (d+1) h0l w (dY hoks (aY8 ht))
   have hkx:=hk.mono (aA.lt hl2 hle);have h0x:=aA.lt h0l' hle;conv=>whnf
   repeat' ((first|(show Idx _ _ _ _ _;refine Idx.kid hkx j t Aa ht (fun ad op3 arg3 neg3 a3 b3 name3 s3 hE hld=>?_))|refine hld _ _ _ (aA.lr _) ?_|((first|apply oI.z|apply cI.z))|intro (_:Nat)|(show CN _ _ _ _ _ _;(refine CN.f rfl (c2 _ _ h0x Ab) (fun v h' hl2 hr=>?_);obtain⟨op4,ar4,ng4,nn4,dd4,nm4,ss4,rfl,hE2⟩:=hr;have hK2:=hK.mono hl2))|(show App _ _ _ _ _ _ _ _ _;refine App.growK (A:=[_,_]) (F:=F1) (size:=7) (bytes:=112) (z:=[.int .i64 0,.int .i64 0,.bool false,.slice none 0 0,.slice none 0 0,.string (txt []),.slice none 0 0]) rfl rfl gF ⟨_,0,none⟩ 1 1 [_,_,_,_,_,_,_] rfl (Has.front _) rfl Ag Aa Aa Ag (fun v' F' g'=>?_))|refine WN.i64 Aa Aa ?_|refine LdN.o 0 rfl rfl ?_|refine Sto.l 0 rfl rfl rfl ?_|(apply aB<;>intro _<;>try (exfalso;omega)))<;>conv=>whnf)
   exact⟨rfl,ks.length-(j+1),Aa,j+1,_,_::_::F',_,rfl,Ac,Aa,vi Aa,rfl,rfl,(g'.cons _).cons _,by rw[bB ht,oG,dK,dK];exact KC.snoc rfl hE2 hK2⟩
theorem aKy(h0:aA)(ba bb:Nat)(na nb:List Nat)(Ta Tc:TypeId)(fa fc:Nat × Nat)(hna:∀y∈na,y<256)(hnb:∀y∈nb,y<256)(ma:h0 ba=some (.cells #[.string (txt na)] Ta fa))(mb:h0 bb=some (.cells #[.string (txt nb)] Tc fc)):
  ByC 38 [.pointer (some ⟨ba,0,none⟩),.pointer (some ⟨bb,0,none⟩)] (byP na nb) h0:=by
 intro u d h vs hok hle w;obtain⟨op,arg,neg,l,m,name,ks⟩:=u;obtain⟨a,b,s,rfl,ho,ha,hv,hb,hk⟩:=w.isK;have ma':=hle _ _ ma;have mb':=hle _ _ mb;have f1:¬op=2->byP na nb (.mk op arg neg l m name ks)=none:=fun x=>if_neg x
 have f2:op=2->name=na->byP na nb (.mk op arg neg l m name ks)=some (.mk op arg neg l m nb ks):=fun x y=>(if_pos x).trans (by rw[sw,if_pos y])
 have f3:op=2->¬name=na->name=nb->byP na nb (.mk op arg neg l m name ks)=some (.mk op arg neg l m na ks):=fun x y z=>(if_pos x).trans (by rw[sw,if_neg y,if_pos z])
 have f4:op=2->¬name=na->¬name=nb->byP na nb (.mk op arg neg l m name ks)=some (.mk op arg neg l m name ks):=fun x y z=>(if_pos x).trans (by rw[sw,if_neg y,if_neg z])
 refine f0C ok D.q38 rfl ?_;conv=>whnf
 repeat' first|((first|(apply aO.go)|(show Ld _ _ _ _;first|refine Ld.of (Has.imm ma' rfl) ?_|refine Ld.of (Has.imm mb' rfl) ?_|refine Ld.o 1 rfl rfl ?_)|((first|apply oI.z|apply cI.z))|intro (_:Nat)|(show LdN _ _ _ _ _;first|refine LdN.o 0 rfl rfl ?_|refine LdN.o 1 rfl rfl ?_)|(show Sto _ _ _ _;first|refine Sto.l 0 rfl rfl rfl ?_|refine Sto.l 1 rfl rfl rfl ?_))<;>conv=>whnf)|(show cnd _ _ _;first|(refine jV hb hna (fun _=>?_) (fun _=>?_)<;>(conv=>whnf))|(refine jV hb hnb (fun _=>?_) (fun _=>?_)<;>(conv=>whnf))|(apply aD<;>intro _<;>first|(exfalso;omega)|conv=>whnf)|(refine aI ?_))
 all_goals first
  | exact RN.a ⟨_,false,_,rfl,⟨op,arg,neg,a,b,name,s,rfl,w⟩,(fun x=>by cases x),fun _=>f1 Ab⟩
  | exact RN.a ⟨_,true,_,rfl,⟨op,arg,neg,a,b,nb,s,rfl,IsE.mkK ho ha hv hnb hk⟩,fun _=>f2 Ab Ab,fun x=>by cases x⟩
  | exact RN.a ⟨_,true,_,rfl,⟨op,arg,neg,a,b,na,s,rfl,IsE.mkK ho ha hv hna hk⟩,fun _=>f3 Ab Ab Ab,fun x=>by cases x⟩
  | exact RN.a ⟨_,true,_,rfl,⟨op,arg,neg,a,b,name,s,rfl,w⟩,fun _=>f4 Ab Ab Ab,fun x=>by cases x⟩
theorem aTe(t:Tr)(na nb:List Nat)(h:aA)(vs:List Value)(tb:Tb h)(w:IsE h vs t)(hna:∀y∈na,y<256)(hnb:∀y∈nb,y<256):Fn0 T F.q16 [.agg vs.toArray,.string (txt na),.string (txt nb)] h fun v h'=>aKe h' v (qW na nb t):=by
 have c1:=fun h tb w=>jB t h vs tb w
 have c2:=fun h=>iN h na hna
 have c3:=fun h=>iN h nb hnb
 have c4:=fun h0 ba bb Ta Tc fa fc ma mb (x:aS t)=>fun h hl w=>aCf rfl h0 (aKy h0 ba bb na nb Ta Tc fa fc hna hnb ma mb) t h vs 1 hl w x.1
 have r1:¬aS t->qW na nb t=(aL,40):=fun x=>if_pos x
 have r2:aS t->¬dH na->qW na nb t=(aL,41):=fun x y=>by unfold qW;rw[if_neg (show ¬¬aS t from fun z=>z x),if_pos fun z=>y z.1]
 have r3:aS t->¬dH nb->qW na nb t=(aL,41):=fun x y=>by unfold qW;rw[if_neg (show ¬¬aS t from fun z=>z x),if_pos fun z=>y z.2]
 have r4:aS t->dH na->dH nb->qW na nb t=dR (jJ (byP na nb) t):=fun x y z=>by
  rw[aPg x ⟨y,z⟩,dR,if_pos (aTd y z x)]
 have c5:=fun h vs tb w=>lG (jJ (byP na nb) t) h vs tb w
 obtain⟨R,hR⟩:=AE (qW na nb t);obtain⟨P,hP⟩:=AE (jJ (byP na nb) t);rw[<-hR] at r1 r2 r3 r4 ⊢;rw[<-hP] at c4 c5 r4;obtain⟨⟨Q1,Q2⟩,hQ⟩:=AE (dR P);rw[<-hQ] at c5 r4;obtain⟨⟨op,arg,neg,l,m,name,ks⟩,ht⟩:=AE t;obtain⟨a,b,s,hvs,-⟩:=(ht.symm▸w:IsE h vs (.mk op arg neg l m name ks)).isK;subst hvs;refine f0C ok D.q16 rfl ?_;conv=>whnf
 repeat' first|((first|(show LdN _ _ _ _ _;first|(first|refine LdN.o 0 rfl rfl ?_|refine LdN.oA 0 rfl rfl ?_)|refine LdN.o 3 rfl rfl ?_)|(show CN _ _ _ _ _ _;first|(refine CN.f rfl (c1 _ Ab Ab) (fun v h' hl2 hr=>?_);subst hr)|(refine CN.f rfl (c2 _) (fun v h' hl2 hr=>?_);subst hr)|(refine CN.f rfl (c3 _) (fun v h' hl2 hr=>?_);subst hr)|(refine CN.keep12 rfl (fun h' hl2 mb ma=>?_);refine CN.f rfl (c4 h' _ _ _ _ _ _ ma mb Ab _ (aA.lr _) Af) (fun v h'' hl3 hr=>?_);obtain⟨op2,ar2,ng2,nn2,dd2,nm2,ss2,rfl,hE2⟩:=hr)|(refine CN.f rfl (c5 _ _ Ae Ab) (fun v h'' hl3 hr=>?_);obtain⟨_,rfl,op2,ar2,ng2,nn2,dd2,nm2,ss2,rfl,hE2⟩:=hr))|((first|apply oI.z|apply cI.z))|intro (_:Nat)|(show Ld _ _ _ _;first|refine Ld.o 1 rfl rfl ?_|refine Ld.o 2 rfl rfl ?_)|refine Sto.l 0 rfl rfl rfl ?_)<;>conv=>whnf)|(show cnd _ _ _;first|(refine aI ?_)|(apply aN<;>intro _<;>first|(exfalso;omega)|conv=>whnf))
 all_goals first
  | (rw[r1 Ab];exact RN.a ⟨_,rfl,VE.zero _⟩)
  | (rw[r2 Ab Ab];exact RN.a ⟨_,rfl,VE.zero _⟩)
  | (rw[r3 Ab Ab];exact RN.a ⟨_,rfl,VE.zero _⟩)
  | (rw[r4 Ab Ab Ab];exact RN.a ⟨_,rfl,op2,ar2,ng2,nn2,dd2,nm2,ss2,rfl,hE2⟩)
end Go.Proofs.Y
/- Binds in memory; the document's subst; Swap's law. -/
namespace Go.Vc
open Go Go.Dig
theorem Ld.tl{h:aA}{A F tl:Vc.Own}{b off:Nat}{k:Value->Prop}{l:List Value}{T:TypeId}{v:Value}(hv:l[off]?=some v)(hk:k v):Ld h (A++(F++(b,.cells l.toArray T (0,0))::tl)) ⟨b,off,none⟩ k:=
 ⟨v,⟨rfl,l.toArray,T,(0,0),.inr Ar,by simpa using hv⟩,hk⟩
end Go.Vc
namespace Go.Proofs.Y
open Go Go.Vc Go.Dig
def tZ(h:aA)(c:Array Value):Nat->List (List Nat × Tr)->Prop
 | _,[]=>True
 | off,(n,t)::bs=>(c[off]?=some (.string (txt n))/\(∀y∈n,y<256)/\∃vs,vs.length=7/\(∀i,i<7->c[off+1+i]?=vs[i]?)/\IsE h vs t)/\tZ h c (off+8) bs
structure IsB (h:aA) (s:Sl) (bs:List (List Nat × Tr)):Prop where
 len:s.l=bs.length
 cap:s.l<=s.c
 mem:bs=[]\/∃bl off c T fz,s.a=some ⟨bl,off,none⟩/\h bl=some (.cells c T fz)/\tZ h c off bs
theorem tZ.up{h h':aA}(hl:h.le h'){c:Array Value}:∀{bs:List (List Nat × Tr)} {off:Nat},tZ h c off bs->tZ h' c off bs
 | [],_,_=>trivial
 | (_,_)::_,_,⟨⟨h1,h2,vs,h3,h4,h5⟩,r⟩=>⟨⟨h1,h2,vs,h3,h4,h5.mono hl⟩,tZ.up hl r⟩
theorem IsB.mono{h h':aA}{s:Sl}{bs:List (List Nat × Tr)}(w:IsB h s bs)(hl:h.le h'):IsB h' s bs:=
 ⟨w.len,w.cap,w.mem.elim .inl fun ⟨bl,off,c,T,fz,k1,k2,k3⟩=>.inr ⟨bl,off,c,T,fz,k1,hl _ _ k2,tZ.up hl k3⟩⟩
theorem tZ.get{h:aA}{c:Array Value}:∀{bs:List (List Nat × Tr)} {off j:Nat} {n:List Nat} {t:Tr},tZ h c off bs->bs[j]?=some (n,t)->
  c[off+j*8]?=some (.string (txt n))/\(∀y∈n,y<256)/\∃vs,vs.length=7/\(∀i,i<7->c[off+j*8+1+i]?=vs[i]?)/\IsE h vs t
 | [],_,_,_,_,_,e=>by simp at e
 | (n',t')::bs,off,0,n,t,w,e=>by
  simp at e;obtain⟨rfl,rfl⟩:=e;rw[bAs,bAg];exact w.1
 | (n',t')::bs,off,j+1,n,t,w,e=>by
  have:=tZ.get (j:=j) w.2 (by simpa using e);rw[show off+8+j*8=off+(j+1)*8 by omega] at this
  exact this
theorem Idx.bind{h:aA}{s:Sl}{bs:List (List Nat × Tr)}(w:IsB h s bs){i:Int}{k:Addr->Prop}(j:Nat)(n:List Nat)(t:Tr)(hi:i=j)(ht:bs[j]?=some (n,t))
  (hk:∀(bl off:Nat) (op arg:Int) (neg:Bool) (a b:Sl) (name:List Nat) (s':Sl),(∀y∈n,y<256)->IsE h [.int .i64 op,.int .i64 arg,.bool neg,a.val,b.val,.string (txt name),s'.val] t->
    (∀h' L,h.le h'->Has h' L ⟨bl,off,none⟩ (.string (txt n)))->(∀h' L (i:Nat) v,h.le h'->[.int .i64 op,.int .i64 arg,.bool neg,a.val,b.val,.string (txt name),s'.val][i]?=some v->Has h' L ⟨bl,off+1+i,none⟩ v)->k ⟨bl,off,none⟩):Idx s.a i s.l 8 k:=by
 obtain⟨hj,-⟩:=aY5.1 ht;rcases w.mem with e|⟨bl,off,c,T,fz,e1,e2,e3⟩
 .subst e;simp at ht
 .obtain⟨g1,g2,vs,h1,h2,h3⟩:=tZ.get e3 ht;obtain⟨op,arg,neg,l,m,name,ks⟩:=t;have h3':=h3;rw[IsE] at h3;obtain⟨a,b,s',rfl,-⟩:=h3;refine Idx.of j e1 hi (by rw[w.len];exact hj) ?_;refine hk bl (off+j*8) op arg neg a b name s' g2 h3' (fun h' L hl=>Has.imm (hl _ _ e2) g1) fun h' L i v hl hv=>Has.imm (hl _ _ e2) ?_
  have hi7:i<7:=(aY5.1 hv).1;rw[h2 i hi7,hv]
attribute [local irreducible] Vc.Fn
end Go.Proofs.Y
/- Case distinctions: plain. -/
namespace Go.Proofs.Y
open Go Go.Vc Go.Dig
def dU(op:Int):Prop:=12<=op/\op<=15
instance (op:Int):Decidable (dU op):=by unfold dU;exact inferInstance
mutual
def gD:Tr->List (Int × List Nat)
 | .mk op _ _ _ _ name ks=>(op,name)::dF ks
def dF:List Tr->List (Int × List Nat)
 | []=>[]
 | t::ts=>gD t++dF ts
end
mutual
def dO:Tr->Option (Tr × Tr × Tr)
 | .mk op arg neg l m name ks=>match jK (if op=15 then 1 else ks.length) ks with
  | some (i,c,y,z)=>some (c,.mk op arg neg l m name (ks.set i y),.mk op arg neg l m name (ks.set i z))
  | none=>if op=12 then some (ks.getD 0 aL,ks.getD 0 aL,aH 4 0 [ks.getD 0 aL]) else if op=13 then some (aH 6 0 [ks.getD 1 aL,ks.getD 0 aL],ks.getD 0 aL,ks.getD 1 aL)
   else if op=14 then some (aH 6 0 [ks.getD 0 aL,ks.getD 1 aL],ks.getD 0 aL,ks.getD 1 aL) else if op=15 then some (ks.getD 0 aL,ks.getD 1 aL,ks.getD 2 aL) else none
def jK:Nat->List Tr->Option (Nat × Tr × Tr × Tr)
 | 0,_=>none
 | _+1,[]=>none
 | n+1,t::ts=>match dO t with
  | some r=>some (0,r)
  | none=>match jK n ts with
   | some (i,r)=>some (i+1,r)
   | none=>none
end
theorem xW:∀{n:Nat} {ts:List Tr},ts.length<=n->(jK n ts=none↔∀t∈ts,dO t=none)
 | 0,[],_=>by rw[jK];simp
 | 0,_::_,h=>by simp at h
 | _+1,[],_=>by rw[jK];simp
 | n+1,t::ts,h=>by
  have ih:=xW (n:=n) (ts:=ts) (by simpa using h);rw[jK];cases hr:dO t with
  | some r=>simp[hr]
  | none=>
   cases hs:jK n ts with
   | none=>simpa[hr] using ih.1 hs
   | some p=>
    refine⟨fun x=>(by cases x),fun x=>?_⟩
    have:=ih.2 fun u hu=>x u (aZd _ hu)
    rw[hs] at this;cases this
def aCg(op:Int)(ks:List Tr):Option (Tr × Tr × Tr):=
 if op=12 then some (ks.getD 0 aL,ks.getD 0 aL,aH 4 0 [ks.getD 0 aL]) else if op=13 then some (aH 6 0 [ks.getD 1 aL,ks.getD 0 aL],ks.getD 0 aL,ks.getD 1 aL)
   else if op=14 then some (aH 6 0 [ks.getD 0 aL,ks.getD 1 aL],ks.getD 0 aL,ks.getD 1 aL) else if op=15 then some (ks.getD 0 aL,ks.getD 1 aL,ks.getD 2 aL) else none
theorem sS{op arg:Int}{neg:Bool}{l m name:List Nat}{ks:List Tr}{i:Nat}{c y z:Tr}(h:jK (if op=15 then 1 else ks.length) ks=some (i,c,y,z)):dO (.mk op arg neg l m name ks)=some (c,.mk op arg neg l m name (ks.set i y),.mk op arg neg l m name (ks.set i z)):=by
 rw[dO,h]
theorem sU{op arg:Int}{neg:Bool}{l m name:List Nat}{ks:List Tr}(h:jK (if op=15 then 1 else ks.length) ks=none):dO (.mk op arg neg l m name ks)=aCg op ks:=by
 rw[dO,h];rfl
theorem uA{op:Int}{ks:List Tr}:aCg op ks=none↔¬dU op:=by
 unfold aCg dU;constructor
 .intro h
  repeat' split at h
  all_goals first|(cases h;done)|omega
 .intro h;rw[if_neg Aa,if_neg Aa,if_neg Aa,if_neg Aa]
mutual
theorem uB:∀{t:Tr},dO t=none↔∀x∈gD t,¬dU x.1
 | .mk op arg neg l m name ks=>by
  rw[gD];by_cases ho:op=15
  .have:dO (.mk op arg neg l m name ks)≠none:=by
    cases hr:jK (if op=15 then 1 else ks.length) ks with
    | some p=>obtain⟨i,c,y,z⟩:=p;rw[sS hr];simp
    | none=>rw[sU hr];intro x;exact uA.1 x (by unfold dU;omega)
   exact⟨fun x=>absurd x this,fun x=>absurd (show dU op by unfold dU;omega) (x _ (aZa ..))⟩
  .have hk:=aAm (ts:=ks);have hn:=xW (n:=if op=15 then 1 else ks.length) (ts:=ks) (by rw[if_neg ho];exact aZt _)
   cases hr:jK (if op=15 then 1 else ks.length) ks with
   | some p=>
    obtain⟨i,c,y,z⟩:=p;rw[sS hr];refine⟨fun x=>(by cases x),fun x=>?_⟩
    have:=hn.2 (hk.2 fun y hy=>x y (aZd _ hy))
    rw[hr] at this;cases this
   | none=>
    rw[sU hr,uA];have:=hk.1 (hn.1 hr);exact⟨fun x y hy=>by
      rcases aZl.1 hy with rfl|hy
      .exact x
      .exact this y hy,fun x=>x _ (aZa ..)⟩
theorem aAm:∀{ts:List Tr},(∀t∈ts,dO t=none)↔∀x∈dF ts,¬dU x.1
 | []=>by rw[dF];simp
 | t::ts=>by
  have h1:=uB (t:=t);have h2:=aAm (ts:=ts);rw[dF];constructor
  .intro h x hx;rcases aZb.1 hx with hx|hx
   .exact h1.1 (h t (aZa ..)) x hx
   .exact h2.1 (fun u hu=>h u (aZd _ hu)) x hx
  .intro h u hu;rcases aZl.1 hu with rfl|hu
   .exact h1.2 fun x hx=>h x (aZv _ hx)
   .exact h2.2 (fun x hx=>h x (aZw _ hx)) u hu
end
end Go.Proofs.Y
/- A range over the nodes of a tree: the recursive iterator's contract. -/
namespace Go.Proofs.Y
open Go Go.Vc Go.Dig Go.RowKit Go.Shelf
attribute [local go_sem] Oper.semAt_some
theorem aCh{Fe:Fence}(hd:Fe.depth=none)(k:Nat):Fe.room k:=fun d h=>by rw[hd] at h;cases h
theorem aEn{Fe:Fence}(hd:Fe.depth=none){m m':Nat}{P:Program}{l:Nat}{f:FuncId}{tmps:Array Value}{assign body:Code}{w:World}{R:Ending->World->Prop}
  (h:RoundIn Fe m P l f tmps assign body w R):RoundIn Fe m' P l f tmps assign body w R:=⟨h.1,fun c cs _=>h.2 c cs (aCh hd _)⟩
theorem aKz{Fe:Fence}(hd:Fe.depth=none){m:Nat}(m':Nat){P:Program}{l:Nat}{args:Array Value}{W:World}{R:Ending->World->Prop}(h:YieldAt Fe m P l args W R):YieldAt Fe m' P l args W R:=by
 obtain⟨fn,tmps,assign,body,hy,hR⟩:=h;exact⟨fn,tmps,assign,body,hy,aEn hd hR⟩
structure eB (W W':World):Prop where
 os:W'.os=W.os
 tape:W'.tape=W.tape
 output:W'.output=W.output
 size:W.heap.size<=W'.heap.size
 cells:∀(k:Nat) (c:Array Value) (T:TypeId) (fz:Nat × Nat),W.heap[k]?=some (Obj.cells c T fz)->W'.heap[k]?=some (Obj.cells c T fz)
theorem eB.refl(W:World):eB W W:=⟨rfl,rfl,rfl,aZt _,fun _ _ _ _ h=>h⟩
theorem eB.trans{A B C:World}(h:eB A B)(k:eB B C):eB A C:=
 ⟨k.os.trans h.os,k.tape.trans h.tape,k.output.trans h.output,aZr h.size k.size,fun _ _ _ _ x=>k.cells _ _ _ _ (h.cells _ _ _ _ x)⟩
theorem eB.alloc(W:World)(o:Obj):eB W (W.alloc o):=⟨rfl,rfl,rfl,by simp,fun k c T fz h=>by
  have:=(Array.getElem?_eq_some_iff.1 h).1;exact (Below.heap_alloc W o k this).trans h⟩
theorem eB.putObj(W:World)(l:Nat)(o o':Obj)(h:W.heap[l]?=some o)(hc:o.isCells=false):eB W (W.putObj l o'):=
 ⟨rfl,rfl,rfl,by simp[World.putObj],fun k c T fz hk=>by
   have hne:k≠l:=fun e=>by subst e;rw[h] at hk;cases hk;cases hc
   simp only[World.putObj];rw[Array.getElem?_setIfInBounds_ne (Ne.symm hne)];exact hk⟩
theorem eB.cell{W W':World}(k:eB W W'){b i:Nat}{v:Value}{c:Array Value}{T:TypeId}{fz:Nat × Nat}(h:W.heap[b]?=some (Obj.cells c T fz))(hv:c[i]?=some v):W'.cell? ⟨b,i,none⟩=some v:=by
 have:=k.cells _ _ _ _ h;simp[World.cell?,this,hv]
def Him(h:aA)(W:World):Prop:=∀(b:Nat) (c:Array Value) (T:TypeId) (fz:Nat × Nat),h b=some (Obj.cells c T fz)->W.heap[b]?=some (Obj.cells c T fz)
theorem Him.keep{h:aA}{W W':World}(x:Him h W)(k:eB W W'):Him h W':=fun b c T fz e=>k.cells _ _ _ _ (x b c T fz e)
structure cJ where
 op:Int
 arg:Int
 neg:Bool
 a:Sl
 b:Sl
 name:List Nat
 s:Sl
 lt:(∀y∈name,y<256)/\name.length<=8
def cJ.cells(x:cJ):List Value:=[.int .i64 x.op,.int .i64 x.arg,.bool x.neg,.slice x.a.a x.a.l x.a.c,.slice x.b.a x.b.l x.b.c,.string (txt x.name),.slice x.s.a x.s.l x.s.c]
def cJ.tag(x:cJ):Int × List Nat:=(x.op,x.name)
theorem aTf{d:Nat}{op arg:Int}{neg:Bool}{l m name:List Nat}{ks:List Tr}(hok:okT d (.mk op arg neg l m name ks)):name.length<=8:=by
 rw[okT] at hok;have h:=hok.2.1.2.2.2.1
 split at h
 .exact h.1
 .rw[h];exact aZs _
theorem IsE.nodeV{h:aA}{vs:List Value}{d:Nat}{op arg:Int}{neg:Bool}{l m name:List Nat}{ks:List Tr}(w:IsE h vs (.mk op arg neg l m name ks))(hok:okT d (.mk op arg neg l m name ks)):∃x:cJ,vs=x.cells/\x.tag=(op,name)/\IsK h x.s ks:=by
 obtain⟨a,b,s,rfl,-,-,-,hb,hk⟩:=w.isK;exact⟨⟨op,arg,neg,a,b,name,s,hb,aTf hok⟩,rfl,rfl,hk⟩
theorem aK0{h:aA}{s:Sl}{ks:List Tr}{d:Nat}(hk:IsK h s ks)(hoks:bZ d ks)(hne:ks≠[]):∃bl off,s.a=some ⟨bl,off,none⟩/\∀j t,ks[j]?=some t->∃x:cJ,IsE h x.cells t/\∀W,Him h W->∀(i:Nat) v,x.cells[i]?=some v->W.cell? ⟨bl,off+j*7+i,none⟩=some v:=by
 rcases hk.mem with e|⟨bl,off,c,T,fz,e1,e2,e3⟩
 .exact absurd e hne
 .refine⟨bl,off,e1,fun j t ht=>?_⟩
  obtain⟨vs,h1,h2,h3⟩:=fL.get e3 ht;obtain⟨op,arg,neg,l,m,name,ks'⟩:=t;obtain⟨x,rfl,-,-⟩:=h3.nodeV (dY hoks (aY8 ht));refine⟨x,h3,fun W hW i v hv=>?_⟩
  have hi7:i<7:=(aY5.1 hv).1;simp[World.cell?,hW _ _ _ _ e2,h2 i hi7,hv]
theorem aK1(t:Tr):(gD t).length=szT t:=by
 refine dX (P:=fun t=>(gD t).length=szT t) (fun t ih=>?_) t
 obtain⟨op,arg,neg,l,m,name,ks⟩:=t;have:∀ts:List Tr,(∀u∈ts,(gD u).length=szT u)->(dF ts).length=dA ts:=by
  intro ts
  induction ts with
  | nil=>intro _;rw[dF,dA];rfl
  | cons u us h=>intro g;rw[dF,dA,aY2,g u (aZa ..),h fun x hx=>g x (aZd _ hx)]
 rw[gD,szT,aY6,this ks fun u hu=>by
   obtain⟨j,hj,e⟩:=List.mem_iff_getElem.1 hu;exact ih u (bM (j:=j) (by rw[aY4 hj,e])),bCu]
theorem mP:∀(a b:List Tr),dF (a++b)=dF a++dF b
 | [],b=>by rw[dF];rfl
 | t::a,b=>by rw[bAk,dF,dF,mP a b,aY7]
theorem aGw(ts:List Tr):(dF ts).length=dA ts:=by
 induction ts with
 | nil=>rw[dF,dA];rfl
 | cons u us h=>rw[dF,dA,aY2,aK1,h]
theorem aTg(Fe:Fence)(hd:Fe.depth=none)(h4:Fe.fn 111)(hro:Fe.round=none)(l N:Nat)(J Jx:List cJ->World->Prop)(h:aA)(hJa:∀pre W o,J pre W->J pre (W.alloc o))
  (hY:∀m pre x W,J pre W->pre.length<N->YieldAt Fe m Tryz.prog l #[.agg x.cells.toArray] W fun e W'=>(e=.returned (.bool true)/\J (pre++[x]) W'/\eB W W')\/(e=.returned (.bool false)/\Jx (pre++[x]) W')):
  ∀(t:Tr) (n d:Nat) (x:cJ) (pre:List cJ) (w:World),IsE h x.cells t->okT d t->Him h w->J pre w->pre.length+szT t<=N->
   CallsIn Fe n Tryz.prog 111 #[.agg x.cells.toArray,.func (.yield l) #[] #[]] w fun e W'=>
    (e=.returned (.bool true)/\(∃xs,xs.map cJ.tag=gD t/\J (pre++xs) W')/\eB w W')\/(e=.returned (.bool false)/\∃q,q.map cJ.tag <+: gD t/\Jx (pre++q) W'):=by
 refine dX fun t ih=>?_
 intro n d x pre w wE hok hw hJ hN;obtain⟨op,arg,neg,l',m',name,ks⟩:=t;have hxs:x.tag=(op,name)/\IsK h x.s ks:=by
  obtain⟨a,b,s,e,-,-,-,hb,hk⟩:=wE.isK;unfold cJ.cells at e
  injection e with e1 e
  injection e with e2 e
  injection e with e3 e
  injection e with e4 e
  injection e with e5 e
  injection e with e6 e
  injection e with e7 e
  injection e1 with _ e1
  injection e6 with e6
  have e7:=Sl.val_inj (s:=x.s) (t:=s) e7;exact⟨by unfold cJ.tag;rw[e1,sD x.lt.1 hb e6],by rw[e7];exact hk⟩
 obtain⟨htg,hk⟩:=hxs;rw[okT] at hok;obtain⟨hd30,hnb,hoks⟩:=hok;have hks:ks.length<=3:=by
  have h1:=hnb.1;have h2:=cR op;omega
 rw[szT] at hN;have hdd:∀k:Nat,(Fe.depth.isSome=true->1<=k):=fun k h=>by rw[hd] at h;cases h
 obtain⟨fn,tmps,assign,body,hy,hR⟩:=hY (n-1) pre x (w.alloc (.cells x.cells.toArray 27)) (hJa _ _ _ hJ) Aa;obtain⟨o1,a1,n1,⟨sa,sl,sc⟩,⟨ta,tl,tc⟩,nm1,⟨ka,kl,kc⟩,lt1⟩:=x;obtain rfl:kl=ks.length:=hk.len;dsimp only[cJ.cells] at hy hR wE ⊢;replace hR:=hR.mono (R':=fun e W2=>(e=.returned (.bool true)/\J (pre++[⟨o1,a1,n1,⟨sa,sl,sc⟩,⟨ta,tl,tc⟩,nm1,⟨ka,ks.length,kc⟩,lt1⟩]) W2/\W2.cell? ⟨w.heap.size,6,none⟩=some (.slice ka ks.length kc)/\eB w W2)\/(e=.returned (.bool false)/\Jx (pre++[⟨o1,a1,n1,⟨sa,sl,sc⟩,⟨ta,tl,tc⟩,nm1,⟨ka,ks.length,kc⟩,lt1⟩]) W2))
  (fun e W2 h=>h.elim (fun ⟨he,hj,hk⟩=>.inl ⟨he,hj,hk.cell (World.alloc_heap_new w _) rfl,(eB.alloc w _).trans hk⟩) .inr)
 have htl:∀xs:List cJ,xs.map cJ.tag=dF ks->(⟨o1,a1,n1,⟨sa,sl,sc⟩,⟨ta,tl,tc⟩,nm1,⟨ka,ks.length,kc⟩,lt1⟩::xs).map cJ.tag=gD (.mk op arg neg l' m' name ks):=fun xs e=>by rw[gD,bAa,e,htg]
 have htp:∀xs:List cJ,xs.map cJ.tag <+: dF ks->(⟨o1,a1,n1,⟨sa,sl,sc⟩,⟨ta,tl,tc⟩,nm1,⟨ka,ks.length,kc⟩,lt1⟩::xs).map cJ.tag <+: gD (.mk op arg neg l' m' name ks):=fun xs e=>by
  rw[gD,bAa,htg];obtain⟨r,hr⟩:=e;exact⟨r,by rw[<-hr];rfl⟩
 obtain⟨X,hX⟩:∃X:cJ,X=⟨o1,a1,n1,⟨sa,sl,sc⟩,⟨ta,tl,tc⟩,nm1,⟨ka,ks.length,kc⟩,lt1⟩:=⟨_,rfl⟩
 rw[<-hX] at hR htl htp;replace hk:IsK h ⟨ka,ks.length,kc⟩ ks:=hk;refine callsIn_of_wp Tryz.func111 rfl h4 ?_ hro;simp only[Tryz.ntmps111,bA4,aY6,aY9,Nat.reduceAdd,Nat.reduceSub,Array.replicate_succ,Array.replicate_zero,bCy,bCm,bAi,bAk]
 gi_wp2_with ((try refine⟨hdd _,?_⟩);refine hR.mono ?_;clear hR;rintro e W2 (⟨rfl,hJ2,hc2,hb2⟩|⟨rfl,hx2⟩))
 .gi_loopw [14] (fun i wr=>∃(k:Nat) (xs:List cJ),k<=ks.length/\i=.int .i64 k/\xs.map cJ.tag=dF (ks.take k)/\J (pre++X::xs) wr/\eB w wr) (fun i _=>ks.length-(intOf i).toNat)
  case atStart=>exact⟨0,[],aZs _,rfl,by rw[bAt,dF];rfl,by simpa using hJ2,hb2⟩
  case round=>
   obtain⟨k,xs,hkk,rfl,hxs,hJs,hbs⟩:=hrel;by_cases hlt:k<ks.length
   .obtain⟨t,ht⟩:∃t,ks[k]?=some t:=⟨_,aY4 hlt⟩
    obtain⟨bl,off,rfl,hkc⟩:=aK0 hk hoks (fun e=>by subst e;exact absurd hlt Ar)
    obtain⟨y,hyE,hyc⟩:=hkc k t ht;have hbc:=(congrArg List.length hxs);rw[aZp,aGw] at hbc;have hsz:dA (ks.take k)+szT t<=dA ks:=by
     have e:=kU ht;have:=congrArg dA e;rw[iP,dA] at this;omega
    have hyw:=hyc wr (hw.keep hbs);obtain⟨o2,a2,n2,⟨sa2,sl2,sc2⟩,⟨ta2,tl2,tc2⟩,nm2,⟨ka2,kl2,kc2⟩,lt2⟩:=y;have k0:wr.cell? ⟨bl,off+k*7,none⟩=_:=hyw 0 _ rfl;have k1:=hyw 1 _ rfl;have k2:=hyw 2 _ rfl;have k3:=hyw 3 _ rfl;have k4:=hyw 4 _ rfl;have k5:=hyw 5 _ rfl;have k6:=hyw 6 _ rfl;dsimp only at k0 k1 k2 k3 k4 k5 k6;have hE':=ih t (bM ht) (n-1) (d+1) ⟨o2,a2,n2,⟨sa2,sl2,sc2⟩,⟨ta2,tl2,tc2⟩,nm2,⟨ka2,kl2,kc2⟩,lt2⟩ (pre++X::xs) (wr.alloc (.cells #[.int .i64 o2,.int .i64 a2,.bool n2,.slice sa2 sl2 sc2,.slice ta2 tl2 tc2,.string (txt nm2),.slice ka2 kl2 kc2] 27)) hyE (dY hoks (aY8 ht)) ((hw.keep hbs).keep (eB.alloc _ _)) (hJa _ _ _ hJs) (by rw[aY2,aY6];omega);dsimp only[cJ.cells] at hE';clear hyw hyc
    gi_wp2_with ((try refine⟨hdd _,?_⟩);gi_at_call 111;refine hE'.mono ?_;clear hE';rintro e W3 (⟨rfl,⟨zs,hzs,hJ3⟩,hb3⟩|⟨rfl,q,hq,hx3⟩))
    .go_roundw
     case rel=>exact⟨k+1,xs++zs,Aa,by simp,by rw[aZh,hxs,hzs,bB ht,mP,dF,dF,aZc],by simpa[aY7] using hJ3,(hbs.trans (eB.alloc _ _)).trans hb3⟩
     case measure=>simp[intOf];omega
    .refine bodyPost_ret (results_tmp rfl _ _ _) rfl ?_;refine .inr ⟨rfl,X::(xs++q),htp _ ?_,by simpa[aY7] using hx3⟩
     obtain⟨r,hr⟩:=hq;have e:=kU ht;refine⟨r++dF (ks.drop (k+1)),?_⟩;rw[aZh,hxs];conv=>rhs;rw[e,mP,dF,<-hr]
     simp[aY7]
   .obtain rfl:k=ks.length:=Aa;rw[aZi] at hxs
    gi_wp2
    go_ret
    exact .inl ⟨rfl,⟨X::xs,htl _ hxs,hJs⟩,hbs⟩
 .go_ret
  exact .inr ⟨rfl,[X],htp [] (List.nil_prefix),by simpa using hx2⟩
end Go.Proofs.Y
/- Periods: plain. -/
namespace Go.Proofs.Y
open Go Go.Vc Go.Dig
def bU:Tr->Option Rat
 | .mk op _ neg l m _ ks=>if op=1 then some (aK neg l m) else if op=4 then (match ks with
   | .mk op' _ neg' l' m' _ _::_=>if op'=1 then some (-(aK neg' l' m')) else none
   | []=>none) else none
theorem aVs{op:Int}{ks:List Tr}(h:(ks.length:Int)=aV op)(hk:aV op=1):ks=[ks.getD 0 aL]:=by
 match ks,h with
 | [a],_=>rfl
 | [],h=>simp at h;omega
 | _::_::_,h=>simp at h;omega
end Go.Proofs.Y
/- A range over the nodes of a tree: the iterator's contract; has, smooth. -/
namespace Go.Proofs.Y
open Go Go.Vc Go.Dig Go.RowKit Go.Shelf
attribute [local go_sem] Oper.semAt_some
theorem aEo{W W':World}{row:Option Nat}{B:Nat}{c:Array Value}{T:TypeId}{fz:Nat × Nat}(h:W.heap[B]?=some (Obj.cells c T fz))(hg:W.grownBy W' row)(hr:∀r,row=some r->∃o:Obj,W.heap[r]?=some o/\o.isCells=false):W'.heap[B]?=some (Obj.cells c T fz):=
 (hg.block B (Array.getElem?_eq_some_iff.1 h).1 (fun e=>by obtain⟨o,ho,hc⟩:=hr B e.symm;rw[h] at ho;cases ho;cases hc)).trans h
theorem aTh{h:aA}{L:Vc.Own}{w:World}(s:Sat h L w):Him h w:=fun b c T fz e=>s.imm _ _ e
theorem aK2(Fe:Fence)(hd:Fe.depth=none)(n:Nat)(h1:Fe.fn 110)(h4:Fe.fn 111)(hro:Fe.round=none)(l Bt N d:Nat)(J Jx:List cJ->World->Prop)(h:aA)(t:Tr)(x:cJ)(hJa:∀pre W o,J pre W->J pre (W.alloc o))
  (hY:∀m pre x W,J pre W->pre.length<N->YieldAt Fe m Tryz.prog l #[.agg x.cells.toArray] W fun e W'=>(e=.returned (.bool true)/\J (pre++[x]) W'/\eB W W')\/(e=.returned (.bool false)/\Jx (pre++[x]) W'))
  (w:World) (hB:w.heap[Bt]?=some (Obj.cells x.cells.toArray 27 (0,0))) (wE:IsE h x.cells t) (hok:okT d t) (hw:Him h w) (hN:szT t<=N) (h0:J [] w):
  CallsIn Fe n Tryz.prog 110 #[.func (.yield l) #[] #[],.pointer (some ⟨Bt,0,none⟩)] w fun e W'=>(∃v,e=.returned v)/\((∃xs,xs.map cJ.tag=gD t/\J xs W')\/(∃q,q.map cJ.tag <+: gD t/\Jx q W')):=by
 have hdd:∀k:Nat,(Fe.depth.isSome=true->1<=k):=fun k h=>by rw[hd] at h;cases h
 have hp:=aTg Fe hd h4 hro l N J Jx h hJa hY t (n-1) d x [] w wE hok hw h0 (by simpa using hN);have hc:∀(i:Nat) v,x.cells[i]?=some v->w.cell? ⟨Bt,i,none⟩=some v:=fun i v hv=>by simp[World.cell?,hB,hv]
 obtain⟨o1,a1,n1,⟨sa,sl,sc⟩,⟨ta,tl,tc⟩,nm1,⟨ka,kl,kc⟩,lt1⟩:=x;have k0:=hc 0 _ rfl;have k1:=hc 1 _ rfl;have k2:=hc 2 _ rfl;have k3:=hc 3 _ rfl;have k4:=hc 4 _ rfl;have k5:=hc 5 _ rfl;have k6:=hc 6 _ rfl;dsimp only at k0 k1 k2 k3 k4 k5 k6;dsimp only[cJ.cells] at hp;simp only[bAi] at hp;refine callsIn_of_wp Tryz.func110 rfl h1 ?_ hro;simp only[Tryz.ntmps110,bA4,aY6,aY9,Nat.reduceAdd,Nat.reduceSub,Array.replicate_succ,Array.replicate_zero,bCy,bCm,bAi,bAk]
 gi_wp2_with ((try refine⟨hdd _,?_⟩);gi_at_call 111;refine hp.mono ?_;clear hp;rintro e W1 (⟨rfl,⟨xs,hxs,hJ1⟩,-⟩|⟨rfl,q,hq,hx⟩))
 .go_end0
  exact⟨⟨_,rfl⟩,.inl ⟨_,hxs,hJ1⟩⟩
 .go_end0
  exact⟨⟨_,rfl⟩,.inr ⟨_,hq,hx⟩⟩
theorem aPh(Fe:Fence)(n:Nat)(h4:Fe.fn 54)(hro:Fe.round=none)(c0 c1 c2 c3 c4 c5 c6:Value)(w:World):
  CallsIn Fe n Tryz.prog 54 #[.agg #[c0,c1,c2,c3,c4,c5,c6]] w fun e w'=>e=.returned (.func (.func 110) #[] #[.pointer (some ⟨w.heap.size,0,none⟩)])/\w'=w.alloc (.cells #[c0,c1,c2,c3,c4,c5,c6] 27):=by
 refine callsIn_of_wp Tryz.func54 rfl h4 ?_ hro;simp only[Tryz.ntmps54,bA4,aY6,aY9,Nat.reduceAdd,Nat.reduceSub,Array.replicate_succ,Array.replicate_zero,bCy,bCm,bAi,bAk]
 gi_wp2
 go_ret
 exact⟨rfl,rfl⟩
theorem aEp(Fe:Fence)(hd:Fe.depth=none)(n:Nat)(h1:Fe.fn 110)(h4:Fe.fn 111)(hro:Fe.round=none)(Bt d:Nat)(h:aA)(t:Tr)(x:cJ)(w:World)
  (hB:w.heap[Bt]?=some (Obj.cells x.cells.toArray 27 (0,0))) (wE:IsE h x.cells t) (hok:okT d t) (hw:Him h w):
  SeqStopsK Fe n Tryz.prog 110 #[.pointer (some ⟨Bt,0,none⟩)] (fun x:cJ=>#[.agg x.cells.toArray]) eB (fun xs=>xs.map cJ.tag=gD t) (fun pre=>pre.map cJ.tag <+: gD t) (szT t) w:=fun l J Jx W hW hJ hJx hY h0=>by
 have hlt:=(Array.getElem?_eq_some_iff.1 hB).1;exact aK2 Fe hd n h1 h4 hro l Bt (szT t) d J Jx h t x (fun pre W1 o hj=>hJ pre W1 (W1.alloc o) none hj (World.grownBy_alloc W1 o none) (fun r e=>by cases e))
  (fun m pre x W1 hj hl=>aKz hd m (hY pre x W1 hj hl)) W ((hW.block _ hlt).trans hB) wE hok (fun b c T fz e=>(hW.block _ (Array.getElem?_eq_some_iff.1 (hw b c T fz e)).1).trans (hw b c T fz e)) (aZt _) h0
theorem aTi{A B C:World}(h:eB A B)(k:eB B C):eB A C:=h.trans k
theorem aPi(Fe:Fence)(n:Nat)(h4:Fe.fn 55)(hro:Fe.round=none)(op:Int)(w:World):
  CallsIn Fe n Tryz.prog 55 #[.int .i64 op] w fun e w'=>(dU op/\e=.returned (.bool true)\/¬dU op/\e=.returned (.bool false))/\w'=w:=by
 refine callsIn_of_wp Tryz.func55 rfl h4 ?_ hro;simp only[Tryz.ntmps55,bA4,aY6,aY9,Nat.reduceAdd,Nat.reduceSub,Array.replicate_succ,Array.replicate_zero,bCy,bCm,bAi,bAk]
 gi_wp2
 all_goals go_ret
 .rename_i h1;by_cases h2:op<=15
  .exact⟨.inl ⟨⟨h1,h2⟩,by rw[decide_eq_true h2];rfl⟩,rfl⟩
  .exact⟨.inr ⟨fun x=>h2 x.2,by rw[decide_eq_false h2];rfl⟩,rfl⟩
 .rename_i h1;exact⟨.inr ⟨fun x=>absurd x.1 Aa,rfl⟩,rfl⟩
theorem aK3(Fe:Fence)(hd:Fe.depth=none)(hro:Fe.round=none)(hf:∀f,Fe.fn f)(t:Tr)(x:cJ)(h:aA)(w:World)(wE:IsE h x.cells t)(hok:okT 1 t)(hw:Him h w):
  CallsIn Fe 3 Tryz.prog 25 #[.agg x.cells.toArray] w fun e W'=>((∀y∈gD t,¬dU y.1)/\e=.returned (.bool true)\/¬(∀y∈gD t,¬dU y.1)/\e=.returned (.bool false))/\Below w.heap.size w W':=by
 have hdd:∀k:Nat,(Fe.depth.isSome=true->1<=k):=fun k h=>by rw[hd] at h;cases h
 have hst:=aEp Fe hd 2 (hf _) (hf _) hro (w.heap.size+1+1) 1 h t x;have hop:=fun (pre:List cJ) (e:pre.map cJ.tag <+: gD t) (z:∃y∈pre,dU y.op)=>(show ¬∀y∈gD t,¬dU y.1 from fun g=>by
   obtain⟨y,hy,h1⟩:=z;obtain⟨r,hr⟩:=e;exact g y.tag (by rw[<-hr];exact aZv _ (aZu hy)) h1)
 have hon:=fun (pre:List cJ) (e:pre.map cJ.tag=gD t) (z:∀y∈pre,¬dU y.op)=>(show ∀y∈gD t,¬dU y.1 from fun y hy=>by
   rw[<-e] at hy;obtain⟨y',hy',rfl⟩:=List.mem_map.1 hy;exact z y' hy')
 obtain⟨o1,a1,n1,⟨sa,sl,sc⟩,⟨ta,tl,tc⟩,nm1,⟨ka,kl,kc⟩,lt1⟩:=x;dsimp only[cJ.cells] at hst ⊢;refine callsIn_of_wp_marks Tryz.func25 rfl (hf _) ?_ hro;simp only[Tryz.ntmps25,bA4,aY6,aY9,Nat.reduceAdd,Nat.reduceSub,Array.replicate_succ,Array.replicate_zero,bCy,bCm,bAi,bAk]
 gi_wp2_with ((try refine⟨hdd _,?_⟩);gi_at_call 54;refine (aPh Fe _ (hf _) hro _ _ _ _ _ _ _ _).mono ?_;rintro e w' ⟨rfl,rfl⟩)
 generalize hCE:Obj.cells #[Value.int IntKind.i64 o1,Value.int IntKind.i64 a1,Value.bool n1,Value.slice sa sl sc,Value.slice ta tl tc,Value.string (txt nm1),Value.slice ka kl kc] 27=CE at *
 have bR:=(Boxed.new (w.alloc CE) 4 (.bool false)).alloc CE;have bE:=World.alloc_heap_new ((w.alloc CE).alloc (.cells #[.bool false] 4)) CE;have hB0:Below w.heap.size w (((w.alloc CE).alloc (.cells #[.bool false] 4)).alloc CE):=(((Below.refl _ w).alloc (aZt _) _).alloc Ar _).alloc As _;have hK0:eB w (((w.alloc CE).alloc (.cells #[.bool false] 4)).alloc CE):=((eB.alloc w _).trans (eB.alloc _ _)).trans (eB.alloc _ _);have hsz:(((w.alloc CE).alloc (.cells #[.bool false] 4)).alloc CE).heap.size=w.heap.size+3:=by simp
 simp only[World.size_alloc] at bR bE;obtain⟨W0,hW0⟩:∃W0,(((w.alloc CE).alloc (.cells #[.bool false] 4)).alloc CE)=W0:=⟨_,rfl⟩
 rw[hW0] at bR bE hB0 hK0 hsz ⊢;clear hW0;subst hCE;refine wpIn_rangeFunc_ownH hro Ag (gf:=110) (lb:=#[.pointer (some ⟨w.heap.size+1+1,0,none⟩)]) rfl (hf _) (enters_of Tryz.func110 (by kernel_rfl) rfl)
  (hst W0 bE wE hok (hw.keep hK0)) aTi (fun W l o o' hl hob hc _=>eB.putObj W l o o' hob hc) (Below.refl _ _) (fun _=>rfl)
  (fun pre W=>(Boxed W (w.heap.size+1) 4 (.bool false)/\Below w.heap.size w W)/\∀y∈pre,¬dU y.op)
  (fun c pre W=>(Boxed W (w.heap.size+1) 4 (.bool false)/\Below w.heap.size w W)/\(c=.ret/\∃y∈pre,dU y.op))
  (OwnFrom.and (OwnFrom.and (Own.from (boxed_own _ _ (fun _=>_)) _) (ownFrom_below (aZt _) Aa)) (fun s W W' row hs _ _=>hs))
  (fun c=>OwnFrom.and (OwnFrom.and (Own.from (boxed_own _ _ (fun _=>_)) _) (ownFrom_below (aZt _) Aa)) (fun s W W' row hs _ _=>hs))
  ⟨⟨bR,hB0⟩,by simp⟩
  (fun x a' W=>∃Bx,w.heap.size+1<Bx/\W.heap[Bx]?=some (Obj.cells x.cells.toArray 27 (0,0))/\a'={ tmps:=#[.agg #[Value.int IntKind.i64 o1,Value.int IntKind.i64 a1,Value.bool n1,Value.slice sa sl sc,Value.slice ta tl tc,Value.string (txt nm1),Value.slice ka kl kc],.pointer (some ⟨w.heap.size,0,none⟩),.pointer (some ⟨w.heap.size+1,0,none⟩),.pointer (some ⟨Bx,0,none⟩),.agg #[Value.int IntKind.i64 o1,Value.int IntKind.i64 a1,Value.bool n1,Value.slice sa sl sc,Value.slice ta tl tc,Value.string (txt nm1),Value.slice ka kl kc],.func (.func 110) #[] #[.pointer (some ⟨w.heap.size+1+1,0,none⟩)],.agg x.cells.toArray,undef,undef,undef],defers:=[] })
  (fun x a' _ X Y row hs hg hr=>by obtain⟨Bx,h1,h2,h3⟩:=hs;exact⟨Bx,h1,aEo h2 hg (fun r e=>(hr r e).2),h3⟩)
  ?assign ?body ?done ?stop
 case assign=>
  rintro l pre ⟨o2,a2,n2,⟨sa2,sl2,sc2⟩,⟨ta2,tl2,tc2⟩,nm2,⟨ka2,kl2,kc2⟩,lt2⟩ W K ⟨⟨b2,hB1⟩,hp⟩ hK
  dsimp only[cJ.cells] at hK ⊢
  gi_wp2
  exact hK _ _ ((KeepsOthers.alloc _ _).from _) (eB.alloc _ _) ⟨⟨b2.alloc _,hB1.alloc hB1.size _⟩,hp⟩ ⟨W.heap.size,b2.lt,World.alloc_heap_new W _,rfl⟩
 case body=>
  rintro l pre ⟨o2,a2,n2,⟨sa2,sl2,sc2⟩,⟨ta2,tl2,tc2⟩,nm2,⟨ka2,kl2,kc2⟩,lt2⟩ a' W hl ⟨r,hr⟩ ⟨⟨b2,hB1⟩,hp⟩ ⟨Bx,hBx,bX,rfl⟩ hlt
  have c2:=b2.cell;have f2:=b2.frozen;have hc:∀(i:Nat) v,(cJ.cells ⟨o2,a2,n2,⟨sa2,sl2,sc2⟩,⟨ta2,tl2,tc2⟩,nm2,⟨ka2,kl2,kc2⟩,lt2⟩)[i]?=some v->W.cell? ⟨Bx,i,none⟩=some v:=fun i v hv=>by simp[World.cell?,bX,hv]
  have k0:=hc 0 _ rfl;dsimp only at k0;dsimp only[cJ.cells]
  gi_wp2_with ((try refine⟨hdd _,?_⟩);gi_at_call 55;refine (CallsIn.inRound l (aPi Fe _ (hf _) hro _ _)).mono ?_;rintro e w' ⟨⟨h1,rfl⟩|⟨h1,rfl⟩,rfl⟩)
  .exact⟨(KeepsOthers.setCell _ _ _).from _,⟨b2.set _,(Below.refl w.heap.size w').setCell (p:=⟨w.heap.size+1,0,none⟩) (by show w.heap.size<=w.heap.size+1;omega) _ |> hB1.trans⟩,rfl,_,aZw _ (aZg.2 rfl),h1⟩
  .refine⟨(KeepsOthers.refl _).from _,eB.refl _,⟨b2,hB1⟩,fun y hy z=>?_⟩
   rcases aZb.1 hy with hy|hy
   .exact hp y hy z
   .obtain rfl:=aZg.1 hy;exact h1 z
 case done=>
  rintro D xs W hD hxs ⟨⟨b2,hB1⟩,hp⟩ hK
  have c2:=b2.cell;have f2:=b2.frozen
  gi_wp2
  have hK':=(KeepsOthers.setCell W ⟨w.heap.size+1,0,none⟩ (.bool true)).same D _ hK rfl;refine⟨by simp,.inl ⟨_,_,rfl,run_takeDeferred hK',?_⟩⟩
  have hc5:=((b2.set (.bool true)).kept (grownBy_putObj' _ D (.deferred none)) (fun e=>by injection e with e;omega)).cell
  refine⟨.bool true,?_,.inl ⟨hon xs hxs hp,rfl⟩,?_⟩
  .simp[results,Tryz.f25,go_sem,hc5]
  .exact (hB1.trans ((Below.refl w.heap.size W).setCell (p:=⟨w.heap.size+1,0,none⟩) (by show w.heap.size<=w.heap.size+1;omega) _)).trans (belowK_b (w:=w) (aZt _) _ D _ _ Aa hK' rfl rfl)
 case stop=>
  rintro D c pre W hD hpre ⟨⟨b2,hB1⟩,rfl,hin⟩ hK
  gi_wp2
  refine⟨by simp,.inl ⟨_,_,rfl,run_takeDeferred hK,?_⟩⟩
  have hc5:=(b2.kept (grownBy_putObj' _ D (.deferred none)) (fun e=>by injection e with e;omega)).cell
  refine⟨.bool false,?_,.inr ⟨hop pre hpre hin,rfl⟩,?_⟩
  .simp[results,Tryz.f25,go_sem,hc5]
  .exact hB1.trans (belowK_b (w:=w) (aZt _) _ D _ _ Aa hK rfl rfl)
theorem aAn(t:Tr)(h:aA)(vs:List Value)(w:IsE h vs t)(hok:okT 1 t):Fn0 T F.q25 [.agg vs.toArray] h fun v h'=>h'=h/\v=.bool (dec (dO t=none)):=by
 refine Fn0.make fun w0 s=>?_
 have hr:=uB (t:=t);obtain⟨op,arg,neg,l,m,name,ks⟩:=t;obtain⟨x,rfl,-,-⟩:=w.nodeV hok;refine ((callsIn_wide (n:=3)).1 (aK3 Fence.wide rfl rfl (fun _=>trivial) _ x h w0 w hok (aTh s))).mono fun e w' he=>?_
 obtain⟨⟨h1,rfl⟩|⟨h1,rfl⟩,hb⟩:=he
 .exact⟨h,[],Inv.below s hb,rfl,rfl,by rw[aW (hr.2 h1)]⟩
 .exact⟨h,[],Inv.below s hb,rfl,rfl,by rw[aG fun z=>h1 (hr.1 z)]⟩
end Go.Proofs.Y
/- Size and Smooth on both sides. -/
namespace Go.Proofs.Y
open Go Go.Vc Go.Dig
end Go.Proofs.Y
/- Rows of kids copied, cut and turned; with, replaced (one kid). -/
namespace Go.Vc
open Go Go.Dig
theorem App.zero{T:Tab}{e:TypeId}{size bytes:Nat}{s:Value}{h:aA}{L:Vc.Own}{k:Value->aA->Vc.Own->Prop}{z:List Value}{n:Nat}{xs:List Value}
  {c:Nat} {ad:Addr} (hi:T.inf e=some (z,bytes)) (g:aE e size s n xs L) (hk:k s h L):App T e size bytes s (.slice (some ad) 0 c) h L k:=by
 refine⟨fun ok o ρ K Q w0 h0 L0 w ty cc hop hty hca hargs ht hsz2 hd inv hout hK=>?_⟩
 obtain⟨d,hd1,hd2⟩:=hd;obtain⟨i,zv,h1,h2,h3,h4,h5⟩:=ok.inf _ _ _ hi;have hexec:∀r,(Builtin.append_ #[cc.argTypes.getD 0 0,cc.argTypes.getD 0 0] o.type #[s,.slice (some ad) 0 c]).run T.prog w=r->(execOp ρ.eval o).run T.prog w=r.andThen fun v w=>.ok (.value v) w:=by
  intro r hr;have he:cc.argTypes=#[cc.argTypes.getD 0 0,cc.argTypes.getD 1 0]:=by
   apply Array.ext
   .simp[hsz2]
   .intro j hj1 hj2;rw[hsz2] at hj1
    match j,hj1 with
    | 0,_=>simp[Array.getD,hsz2]
    | 1,_=>simp[Array.getD,hsz2]
  rw[<-hr,<-fU ht hd1 hd2,<-he];simp only[execOp,hop,resolve,hca,invoke,builtin,bAc,bAh,bAb,hargs]
 refine .inl (bA (hexec (.ok s w) ?_) (hK _ _ _ _ inv hk))
 generalize cc.argTypes.getD 0 0=t at ht ⊢
 obtain⟨gl,⟨rfl,rfl⟩|⟨j,b,cap,zs,rfl,hj,hnc,hlen⟩⟩:=g
 .simp[Builtin.append_,run_underlying ht,sizeOf,typeInfo,h1,Builtin.lenOf,Builtin.firstCells,loadCells,loadCellsFrom]
 .simp[Builtin.append_,run_underlying ht,sizeOf,typeInfo,h1,Builtin.lenOf,Builtin.firstCells,loadCells,loadCellsFrom,hnc,storeCells]
theorem aE.up{e:TypeId}{size:Nat}{v:Value}{n:Nat}{xs:List Value}{F:Vc.Own}(g:aE e size v n xs F)(A tl:Vc.Own):aE e size v n xs (A++(F++tl)):=by
 obtain⟨g1,⟨rfl,rfl⟩|⟨i,b,cap,zs,rfl,h2,h3,h4⟩⟩:=g
 .exact⟨g1,.inl ⟨rfl,rfl⟩⟩
 .have hlt:=(aY5.1 h2).1;exact⟨g1,.inr ⟨A.length+i,b,cap,zs,rfl,by rw[aZo Aa,bAo,aZe hlt];exact h2,h3,h4⟩⟩
theorem aE.mk0{e:TypeId}{size b:Nat}:aE e size (.slice (some ⟨b,0,Option.none⟩) 0 0) 0 [] [(b,.cells [].toArray e (0,0))]:=
 ⟨by simp,.inr ⟨0,b,0,[],rfl,rfl,aZt _,by simp⟩⟩
theorem aE.pos{e:TypeId}{size:Nat}{v:Value}{n:Nat}{xs:List Value}{F:Vc.Own}(g:aE e size v n xs F)(hn:0<n):∃b cap,v=.slice (some ⟨b,0,Option.none⟩) n cap:=by
 obtain⟨g1,⟨rfl,rfl⟩|⟨i,b,cap,zs,rfl,h2,h3,h4⟩⟩:=g
 .omega
 .exact⟨b,cap,rfl⟩
theorem aEq:∀(vs l:List Value) (o:Nat),o+vs.length<=l.length->kL vs l o=l.take o++vs++l.drop (o+vs.length)
 | [],l,o,_=>by simp[kL]
 | v::vs,l,o,h=>by
  rw[aY6] at h;rw[kL,aEq vs (l.set o v) (o+1) (by rw[bBf];omega)];rw[List.take_set,List.drop_set_of_lt Aa,aY6,show o+1+vs.length=o+(vs.length+1) by omega]
  have:(List.take (o+1) l).set o v=l.take o++[v]:=by
   rw[bDb,aY4 Aa];rw[bAj _ _ (by rw[aZn];omega)];simp[aZn,bAz (show o<=l.length by omega)]
  rw[this];simp
theorem Sto.grow{e:TypeId}{size:Nat}{v:Value}{n:Nat}{xs:List Value}{A F tl:Vc.Own}{b cap:Nat}{ws:List Value}{k:Vc.Own->Prop}(g:aE e size v n xs F)(hv:v=.slice (some ⟨b,0,none⟩) n cap)(hw:ws.length=size)(ho:ws.all eS=true)
  (i:Nat) (hi:i<n) (hk:∀F',aE e size v n (xs.take (i*size)++ws++xs.drop (i*size+size)) F'->k (A++(F'++tl))):Sto (A++(F++tl)) ⟨b,0+i*size,none⟩ ws k:=by
 obtain⟨g1,⟨rfl,rfl⟩|⟨j,b',cap',zs,rfl,h2,h3,h4⟩⟩:=g
 .cases hv
 .cases hv
  have hlt:=(aY5.1 h2).1;have hle:i*size+size<=xs.length:=by
   rw[g1]
   calc i*size+size=(i+1)*size:=by rw[aZ8,bBs]
    _<=n*size:=aZm _ hi
  have hle2:i*size+size<=(xs++zs).length:=by rw[aY2];omega
  refine⟨rfl,A.length+j,(xs++zs).toArray,e,?_,?_,ho,?_⟩
  .rw[aZo Aa,bAo,aZe hlt];exact h2
  .rw[aZq,hw];simpa using hle2
  .rw[bAj _ _ Aa,bAo,bCe _ _ hlt];refine hk _ ⟨?_,.inr ⟨j,b,cap,zs,rfl,?_,h3,?_⟩⟩
   .rw[aY2,aY2,aZn,aZz,hw];omega
   .rw[bAr hlt,gR,aZq,aEq _ _ _ (by rw[hw];exact hle2),hw,List.take_append_of_le_length (show i*size<=xs.length by omega),bBq hle];simp only[aY7]
   .rw[<-h4,aY2,aY2,aY2,aY2,aZn,aZz,hw];omega
end Go.Vc
namespace Go.Proofs.Y
open Go Go.Vc Go.Dig
theorem fL.kc{h:aA}{c:Array Value}:∀{ts:List Tr} {off:Nat},fL h c off ts->∃xs,KC h xs ts/\∀(j:Nat) v,xs[j]?=some v->c[off+j]?=some v
 | [],_,_=>⟨[],rfl,fun j v h=>by simp at h⟩
 | t::ts,off,w=>by
  rw[fL] at w;obtain⟨⟨vs,h1,h2,h3⟩,r⟩:=w;obtain⟨ys,k,hy⟩:=fL.kc r;refine⟨vs++ys,⟨vs,ys,rfl,h1,h3,k⟩,fun j v hv=>?_⟩
  by_cases hj:j<7
  .rw[aZe Aa] at hv;rw[h2 j hj,hv]
  .rw[aZo Aa,h1] at hv;have:=hy _ _ hv;rw[show off+7+(j-7)=off+j by omega] at this
   exact this
theorem KC.one{h:aA}:∀{ts:List Tr} {xs:List Value},KC h xs ts->xs.all eS=true
 | [],xs,k=>by obtain rfl:xs=[]:=k;rfl
 | .mk op arg neg l m name ks::ts,xs,⟨vs,ys,e,l1,w,r⟩=>by
  obtain⟨a,b,s,rfl,-⟩:=w.isK;rw[e,List.all_append,KC.one r];rfl
theorem KC.turn{h:aA}{t:Tr}{ws:List Value}(w:IsE h ws t)(hw:ws.length=7):∀{ts:List Tr} {xs:List Value} {i:Nat},KC h xs ts->i<ts.length->KC h (xs.take (i*7)++ws++xs.drop (i*7+7)) (ts.set i t)
 | u::ts,xs,0,⟨vs,ys,e,l1,w1,r⟩,_=>by
  subst e;rw[bAs,aZq,bAt,bAi,bBq Aa,bCa Aa,bAi];exact⟨ws,ys,rfl,hw,w,r⟩
 | u::ts,xs,i+1,⟨vs,ys,e,l1,w1,r⟩,hi=>by
  subst e;have:=KC.turn w hw (i:=i) r (by simpa using hi);rw[bBc,show (i+1)*7=vs.length+i*7 by omega,List.take_length_add_append,show vs.length+i*7+7=vs.length+(i*7+7) by omega,List.drop_length_add_append,aY7,aY7]
  exact⟨vs,_,rfl,l1,w1,by rw[<-aY7];exact this⟩
theorem IsK.front{h:aA}{s:Sl}{ks:List Tr}(w:IsK h s ks){i:Nat}(hi:i<=ks.length):IsK h ⟨s.a,i,s.c⟩ (ks.take i):=by
 refine⟨by rw[aZn];show i=_;omega,?_,?_⟩
 .have h1:=w.len;have h2:=w.cap;show i<=s.c;omega
 .rcases w.mem with e|⟨bl,off,c,T,fz,e1,e2,e3⟩
  .left;rw[e];simp
  .right
   refine⟨bl,off,c,T,fz,e1,e2,?_⟩;have:∀{ts:List Tr} {off i:Nat},fL h c off ts->fL h c off (ts.take i):=by
    intro ts
    induction ts with
    | nil=>intro off i x;simpa using x
    | cons t ts ih=>
     intro off i x;cases i with
     | zero=>rw[bAt,fL];trivial
     | succ i=>
      rw[fL] at x;rw[bC4,fL];exact⟨x.1,ih x.2⟩
   exact this e3
theorem App.kids{h0 h:aA}{s:Value}{n:Nat}{xs:List Value}{A F tl:Vc.Own}{t:Sl}{ks:List Tr}{k:Value->aA->Vc.Own->Prop}{z:List Value}{e:TypeId}(hi:T.inf e=some (z,112))(hz:z.length=7)(g:aE e 7 s n xs F)(w:IsK h0 t ks)(hle:h0.le h)(hn:n+ks.length<=1048576)
  (hk:∀v' F' ys,aE e 7 v' (n+ks.length) (xs++ys) F'->KC h ys ks->k v' h (A++(F'++tl))):App T e 7 112 s t.val h (A++(F++tl)) k:=by
 obtain⟨ta,tl',tc⟩:=t;have hl:tl'=ks.length:=w.len;subst hl;by_cases hne:ks=[]
 .subst hne;have:=hk s F [] (by simpa using g) rfl;cases ta with
  | none=>exact App.nil hi (g.up A tl) this
  | some ad=>exact App.zero hi (g.up A tl) this
 .rcases w.mem with e0|⟨bl,off,c,T0,fz,e1,e2,e3⟩
  .exact absurd e0 hne
  .obtain⟨ys,kc,hy⟩:=e3.kc;have e1':ta=some ⟨bl,off,none⟩:=e1;subst e1';refine App.growK hi hz g ⟨bl,off,none⟩ ks.length tc ys kc.len (fun j hj=>?_) kc.one (List.length_pos_iff.2 hne) Aa Aa Ag (fun v' F' g'=>hk v' F' ys g' (kc.mono hle))
   rw[aZ];refine Has.imm (hle _ _ e2) (hy j _ ?_);rw[aY3,aY4 hj];rfl
end Go.Proofs.Y
/- The names of a tree's variables in ascending order: plain words, and the document's side. -/
namespace Go.Dig
open Go
def b8(n:List Nat):List UInt8:=n.map UInt8.ofNat
end Go.Dig
namespace Go.Vc
open Go Go.Dig
def sv(x:List UInt8):Value:=.string ⟨x.toArray⟩
end Go.Vc
namespace Go.Proofs.Y
open Go Go.Vc Go.Dig
end Go.Proofs.Y
/- 'clear' of a slice of one's own row; terms like zero taken out of a row: IndexFunc, DeleteFunc. -/
namespace Go.Vc
open Go Go.Dig
theorem Ext.clear{T:Tab}{c:Call}{h:aA}{L:Own}{k:Value->aA->Own->Prop}{t e:TypeId}{z:List Value}{bytes b off n cap:Nat}{X M Y:List Value}{ET:TypeId}(i:Nat)(hc:c.callee=.builtin .clear)(hat:c.argTypes=#[t])(ht:T.und t=some (.slice e))(hi:T.inf e=some (z,bytes))(hz:z.all eS=true)
  (hn:L[i]?=some (b,.cells (X++M++Y).toArray ET (0,0))) (hoff:off=X.length) (hM:M.length=n*z.length) (hk:∀Z:List Value,Z.length=M.length->k (.tuple #[]) h (L.set i (b,.cells (X++Z++Y).toArray ET (0,0)))):Ext T (.call c) c.args.toList [.slice (some ⟨b,off,none⟩) n cap] h L k:=by
 refine⟨fun ok o ρ K Q w0 h0' L0 w hop hargs inv hout hP hK=>.inl ?_⟩
 have ea:c.args.map ρ.eval=#[.slice (some ⟨b,off,none⟩) n cap]:=by apply Array.ext';simpa using hargs
 have hexec:∀r,(Builtin.clear_ #[t] o.type #[.slice (some ⟨b,off,none⟩) n cap]).run T.prog w=r->(execOp ρ.eval o).run T.prog w=r.andThen fun v w=>.ok (.value v) w:=by
  intro r hr;rw[<-hr,<-hat];simp only[execOp,hop,resolve,hc,invoke,builtin,bAc,bAh,bAb,ea]
 have hht:=ok.und _ _ ht;have hown:=inv.own _ (aY8 hn);obtain⟨hlt,hget⟩:=aY5.1 hn;cases n with
 | zero=>
  have hM0:M=[]:=aZj (by rw[hM,bAs]);have hr:(Builtin.clear_ #[t] o.type #[.slice (some ⟨b,off,none⟩) 0 cap]).run T.prog w=.ok (.tuple #[]) w:=by
   simp[Builtin.clear_,run_underlying hht]
  subst hM0;have:=hk [] rfl;rw[<-hget,bBz] at this;exact bA (hexec _ hr) (hK _ _ _ _ inv this)
 | succ n=>
  obtain⟨zv,hzv,hzc⟩:=kW (T:=T) ok (w:=w) hi;have hzl:(Builtin.zeroCells zv.cells (n+1)).toList=(List.replicate (n+1) z).flatten:=by
   unfold Builtin.zeroCells;rw[hzc,bA4];show (Array.map (fun i=>z.toArray[i%z.toArray.size]!) (Array.range ((n+1)*z.length))).toList=_
   rw[nQ]
  have hfl:((List.replicate (n+1) z).flatten).length=M.length:=by rw[hM,List.length_flatten,List.map_replicate,List.sum_replicate_nat]
  have hone:((List.replicate (n+1) z).flatten).all eS=true:=by
   refine List.all_eq_true.2 fun x hx=>?_
   obtain⟨l,hl,hx⟩:=List.mem_flatten.1 hx;rw[List.eq_of_mem_replicate hl] at hx;exact List.all_eq_true.1 hz x hx
  obtain⟨w',hs,hu⟩:=kX (P:=T.prog) ((List.replicate (n+1) z).flatten) w off 0 _ hown (by rw[bA4,hfl,hoff];simp only[aY2];omega) hone;have hr:(Builtin.clear_ #[t] o.type #[.slice (some ⟨b,off,none⟩) (n+1) cap]).run T.prog w=.ok (.tuple #[]) w':=by
   simp[Builtin.clear_,run_underlying hht,hzv,hzl,hs]
  have hset:jS (X++M++Y).toArray (off+0) ((List.replicate (n+1) z).flatten)=(X++(List.replicate (n+1) z).flatten++Y).toArray:=by
   have h0:off+0=X.length:=Aa;rw[gR,h0,jC _ _ _ (by rw[hfl];simp only[aY2];omega),hfl]
   congr 1
   rw[aY7 X M,bB3,<-aY7 X M,<-aY2,bDe]
  refine bA (hexec _ hr) ?_;rcases hu with ⟨e0,rfl⟩|hu
  .have:=hk _ hfl;rw[e0] at hfl this;have hM0:M=[]:=aZj hfl.symm;subst hM0;rw[<-hget,bBz] at this;exact hK _ _ _ _ inv this
  .rw[hset] at hu;exact hK _ _ _ _ (inv.upd hn hu) (hk _ hfl)
end Go.Vc
namespace Go.Vc
open Go Go.Dig
theorem aPj(K Mi R:List El)(m x:El):(K++(m::Mi)++x::R).set K.length x=(K++[x])++(Mi++[x])++R:=by
 rw[aY7,bAj _ _ (aZt _),bBv];simp[aY7]
theorem aTj(K Mi R:List El)(x:El){j:Nat}(hj:j=K.length+Mi.length):(K++Mi++x::R)[j]?=some x:=by
 rw[hj,<-aY2];exact mF _ _ _
end Go.Vc
namespace Go.Proofs.Y
open Go Go.Vc Go.Dig
attribute [local irreducible] Vc.Fn FnP
structure TmW (h:aA) (x:El):Prop where
 fr:bV h x.n x.d x.q
 sg:x.neg=sg x.q
 fac:lQ h x
theorem TmW.mono{h h':aA}{x:El}(w:TmW h x)(hl:h.le h'):TmW h' x:=⟨w.fr.mono hl,w.sg,w.fac.mono hl⟩
def nz(x:El):Bool:=!decide (x.q=0)
theorem aEr(h:aA)(x:El)(w:TmW h x)(hs:Sz 1099511627776 x.q):Fn0 T F.q212 [.agg x.cells.toArray] h fun v h'=>h'=h/\v=.bool (dec (x.q=0)):=by
 have c1:=qG h x.n x.d x.q w.fr hs;have e1:Vc.eq (bY x.q) 0=dec (x.q=0):=by
  rw[jE];have h1:bY x.q=0↔x.q=0:=fC.trans dS;by_cases h0:x.q=0
  .rw[aW h0,aW (h1.2 h0)]
  .rw[aG h0,aG (fun e=>h0 (h1.1 e))]
 obtain⟨neg,n,d,f,m,q⟩:=x;obtain rfl:neg=sg q:=w.sg;refine f0C ok D.q212 rfl ?_;conv=>whnf
 repeat' ((first|(show LdN _ _ _ _ _;refine LdN.oA 0 rfl rfl ?_)|(show CN _ _ _ _ _ _;refine CN.quiet rfl c1 ?_)|((first|apply oI.z|apply cI.z))|intro (_:Nat))<;>conv=>whnf)
 rw[e1];exact RN.a ⟨rfl,rfl⟩
end Go.Proofs.Y
/- The library's IndexFunc and DeleteFunc, at terms. -/
namespace Go.Vc
open Go Go.Dig
theorem sV(G:Own)(x y:Nat × Obj):(G++[x]).set G.length y=G++[y]:=by
 rw[bAj _ _ (aZt _),bBv];rfl
theorem Sto.elT{G:Own}{bp:Nat}{l:List El}{zs:List Value}{i:Nat}{x:El}{T:TypeId}{k:Own->Prop}(hi:i<l.length)(hk:k (G++[(bp,.cells (fl (l.set i x)++zs).toArray T (0,0))])):Sto (G++[(bp,.cells (fl l++zs).toArray T (0,0))]) ⟨bp,0+i*4,none⟩ x.cells k:=
 Sto.el G.length (lB _ _ _) hi (by rw[sV];exact hk)
theorem jM.own4{b c n:Nat}{l h:Int}{k:Option Addr->Nat->Nat->Prop}(j e:Nat)(hl:l=j)(hh:h=e)(h1:j<=e)(h2:e<=c)(h3:j<c)(hk:k (some ⟨b,j*n,none⟩) (e-j) (c-j)):jM (some ⟨b,0,none⟩) l h c n k:=
 ⟨j,e,some ⟨b,j*n,none⟩,e-j,c-j,hl,hh,h1,h2,by rw[if_neg Aa];simp[aZ],rfl,rfl,hk⟩
theorem FzN.dropJ{P:aA->Own->Prop}{h:aA}{L:Own}:∀{J:Own},FzN P h L->FzN P h (J++L)
 | [],r=>r
 | _::J,r=>.drop 0 (FzN.dropJ (J:=J) r)
theorem RN.dropJ{v:Value}{h:aA}{J L:Own}{R:Value->aA->Own->Prop}(r:RN v h L R):RN v h (J++L) R:=⟨FzN.dropJ r.ex⟩
theorem aVt(K Mi:List El)(zs:List Value):fl (K++Mi)++zs=fl K++fl Mi++zs:=by rw[aO1]
end Go.Vc
namespace Go.Proofs.Y
open Go Go.Vc Go.Dig
attribute [local irreducible] Vc.Fn FnP
theorem aCi(h:aA)(bp cap:Nat)(zs:List Value)(l:List El)(hb:l.length<=1099511627776)(w:∀x∈l,TmW h x/\Sz 1099511627776 x.q):
  Vc.Fn T F.q244 [.slice (some ⟨bp,0,none⟩) l.length cap,.func (.func F.q212) #[] #[]] h [cM bp zs l] fun v h' L'=>h'=h/\L'=[cM bp zs l]/\
   ((v=.int .i64 (-1)/\∀x∈l,x.q≠0)\/∃(i:Nat) (x:El),v=.int .i64 i/\l[i]?=some x/\x.q=0/\∀y∈l.take i,y.q≠0):=by
 refine f1C ok D.q244 rfl ?_;conv=>whnf
 repeat ((first|apply oI.z|apply cI.z);conv=>whnf)
 skip
 refine LpN.of (fun r ρ hx L=>∃j:Nat,r=l.length-j/\hx=h/\L=[cM bp zs l]/\j<=l.length/\rd ρ 8=.int .i64 j/\∀y∈l.take j,y.q≠0) l.length
  ⟨0,rfl,rfl,rfl,aZs _,rfl,fun y hy=>by simp at hy⟩ ?_
 conv=>whnf
 repeat intro _
 rename_i r hx L2 hI;obtain⟨j,rfl,rfl,rfl,hj,e8,hq⟩:=hI;conv at e8=>lhs;whnf
 subst e8;by_cases hjl:j=l.length
 .rw[hjl,aZi] at hq;obtain⟨N,hN⟩:=AE l.length;rw[<-hN] at hjl ⊢;conv=>whnf
  repeat' ((first|((first|apply oI.z|apply cI.z))|(apply aB<;>intro _<;>try (exfalso;omega)))<;>conv=>whnf)
  exact RN.done ⟨rfl,rfl,.inl ⟨rfl,hq⟩⟩
 .obtain⟨x,hx'⟩:∃t,l[j]?=some t:=⟨_,aY4 Aa⟩
  have hx2:=aY8 hx';have c1:=aEr hx x (w x hx2).1 (w x hx2).2;have ht:=bB hx';obtain⟨N,hN⟩:=AE l.length;rw[<-hN] at hjl hj hb ⊢;conv=>whnf
  repeat' first|((first|(show Idx _ _ _ _ _;refine Idx.of j rfl Aa Aa ?_)|(show LdN _ _ _ _ _;refine LdN.el 0 rfl hx' ?_)|(show CN _ _ _ _ _ _;refine CN.quiet rfl c1 ?_)|((first|apply oI.z|apply cI.z))|refine WN.i64 Aa Aa ?_)<;>conv=>whnf)|(show cnd _ _ _;first|((first|apply aB|apply aN)<;>intro _<;>first|(exfalso;omega)|conv=>whnf))
  .exact RN.done ⟨rfl,rfl,.inr ⟨j,x,rfl,hx',Ab,hq⟩⟩
  .exact⟨rfl,N-(j+1),Aa,j+1,rfl,rfl,rfl,Aa,vi Aa,fun y hy=>by
     rw[ht] at hy;rcases aZb.1 hy with hy|hy
     .exact hq y hy
     .rw[aZg.1 hy];assumption⟩
theorem yY(h:aA)(bp cap:Nat)(zs:List Value)(l:List El)(hb:l.length<=1099511627776)(hc:l.length<=cap)(w:∀x∈l,TmW h x/\Sz 1099511627776 x.q):
  Vc.Fn T F.q211 [.slice (some ⟨bp,0,none⟩) l.length cap,.func (.func F.q212) #[] #[]] h [cM bp zs l] fun v h' L'=>∃zs',v=.slice (some ⟨bp,0,none⟩) (l.filter nz).length cap/\L'=[cM bp zs' (l.filter nz)]:=by
 have c1:=aCi h bp cap zs l hb w;have c2:∀x∈l,Fn0 T F.q212 [.agg x.cells.toArray] h fun v h'=>h'=h/\v=.bool (dec (x.q=0)):=fun x hx=>aEr h x (w x hx).1 (w x hx).2
 obtain⟨N,hN⟩:=AE l.length;rw[<-hN] at c1 hb hc ⊢;obtain⟨l0,hl0⟩:=AE l;rw[<-hl0] at c1;have row0:cM bp zs l=cM bp zs l0:=by rw[hl0]
 rw[row0];refine f1C ok D.q211 rfl ?_;conv=>whnf
 repeat' first|((first|((first|apply oI.z|apply cI.z)))<;>conv=>whnf)|(show CN _ _ _ _ _ _;first|(refine CN.own 0 rfl rfl c1 (fun v h' La hl hr=>?_);obtain⟨rfl,rfl,⟨rfl,q1⟩|⟨i,x,rfl,q1,q2,q3⟩⟩:=hr<;>refine⟨_,rfl,?_⟩<;>(conv=>whnf)))|(apply aD<;>intro _<;>first|(exfalso;omega)|conv=>whnf)
 .have e1:l.filter nz=l:=List.filter_eq_self.2 fun y hy=>by
   rw[hl0] at q1;unfold nz;rw[decide_eq_false (q1 y hy)];rfl
  rw[e1,<-hN];exact RN.done ⟨zs,rfl,by rw[hl0];rfl⟩
 have hi:i<N:=by rw[hN,<-hl0];exact (aY5.1 q1).1
 subst hl0;have hx:l0=l0.take i++[x]++l0.drop (i+1):=by rw[<-bB q1,aZk]
 have htl:(l0.take i).length=i:=by rw[aZn];omega
 have hfl:(l0.take i).filter nz=l0.take i:=List.filter_eq_self.2 fun y hy=>by
  unfold nz;rw[decide_eq_false (q3 y hy)];rfl
 have hxn:nz x=false:=by unfold nz;rw[decide_eq_true q2];rfl
 have hmid:l0.filter nz=l0.take i++(l0.drop (i+1)).filter nz:=by
  conv=>lhs;rw[hx]
  rw[bBu,bBu,hfl,bDi,if_neg (by rw[hxn];decide),List.filter_nil,aZc]
 clear c1 row0;conv=>whnf
 repeat' ((first|((first|apply oI.z|apply cI.z))|refine WN.i64 Aa Aa ?_)<;>conv=>whnf)
 refine LpN.of (fun r ρ h2 L=>∃(J:Vc.Own) (K Mi P R:List El),r=R.length/\h2=h'/\L=J++[cM bp zs (K++Mi++R)]/\rd ρ 5=.int .i64 (K.length:Nat)/\rd ρ 6=.int .i64 (K.length+Mi.length:Nat)/\0<Mi.length/\l0=P++R/\K=P.filter nz/\K.length+Mi.length=P.length) (l0.drop (i+1)).length
  ⟨[],l0.take i,[x],l0.take i++[x],l0.drop (i+1),rfl,rfl,by rw[<-hx];rfl,vi Aa,vi (by rw[htl];rfl),Nat.succ_pos _,hx,by rw[bBu,hfl,bDi,if_neg (by rw[hxn];decide),List.filter_nil,aZc],by simp⟩ ?_
 conv=>whnf
 repeat intro _
 rename_i r h2 L2 hI;obtain⟨J,K,Mi,P,R,rfl,rfl,rfl,e5,e6,hM,hP,hK,hPl⟩:=hI;conv at e5=>lhs;whnf
 subst e5;conv at e6=>lhs;whnf
 subst e6;have hlen:N=P.length+R.length:=by rw[hN,hP,aY2]
 match R,hP,hlen with
 | [],hP,hlen=>
  rw[aZc] at hP;rw[aY9] at hlen;have hK2:l0.filter nz=K:=by rw[hP,hK]
  rw[hK2,aZc];have eT:(cM bp zs (K++Mi))=(bp,.cells (fl K++fl Mi++zs).toArray 72 (0,0)):=by rw[<-aVt]
  rw[eT];obtain⟨k,hk⟩:=AE K.length;rw[<-hk] at hPl ⊢;conv=>whnf
  repeat' ((first|(show jM _ _ _ _ _ _;first|refine jM.own4 k N rfl Aa Aa Aa Aa ?_|(refine jM.front (s:=⟨some ⟨bp,0,none⟩,N,cap⟩) k rfl (by show k<=cap;omega) ?_))|(show Ext _ _ _ _ _ _ _;(refine Ext.clear (X:=fl K) (M:=fl Mi) (Y:=zs) J.length rfl rfl rfl rfl rfl (lB J _ []) (by rw[cY,hk];rfl) (by rw[cY];show _=(N-k)*4;omega) (fun Z hZ=>?_);rw[sV]))|((first|apply oI.z|apply cI.z))|(apply aB<;>intro _<;>try (exfalso;omega)))<;>conv=>whnf)
  rw[aY7,hk];exact RN.dropJ (RN.done ⟨Z++zs,rfl,rfl⟩)
 | y::R,hP,hlen=>
  rw[aY6] at hlen
  match Mi,hM,hPl with
  | m::Mi,hM,hPl=>
   have hgy:=aTj K (m::Mi) R y rfl;have hy:y∈l0:=by rw[hP];simp
   have cy:=c2 y hy;have hset:=aPj K Mi R m y;obtain⟨l1,hl1⟩:=AE (K++(m::Mi)++y::R);have hl1l:l1.length=N:=by rw[hl1,hlen];simp only[aY2,aY6] at hPl ⊢;omega
   rw[<-hl1] at hgy hset ⊢;have hml:(m::Mi).length=Mi.length+1:=rfl;rw[hml] at hgy hPl ⊢;obtain⟨k,hk⟩:=AE K.length;rw[<-hk] at hPl hgy hset ⊢;conv=>whnf
   repeat' first|((first|(apply aO.go)|(show Idx _ _ _ _ _;first|refine Idx.of (k+(Mi.length+1)) rfl Aa Aa ?_|refine Idx.of k rfl Aa Aa ?_)|(show LdN _ _ _ _ _;first|refine LdN.el J.length (lB J _ []) hgy ?_|refine LdN.o 0 rfl rfl ?_)|(show CN _ _ _ _ _ _;refine CN.quiet rfl cy ?_)|(show Sto _ _ _ _;first|(refine Sto.elT (G:=_::J) (x:=y) Aa ?_;rw[hset])|refine Sto.l 0 rfl rfl rfl ?_)|((first|apply oI.z|apply cI.z))|intro (_:Nat)|refine WN.i64 Aa Aa ?_)<;>conv=>whnf)|(show cnd _ _ _;first|(apply aB<;>intro _<;>first|(exfalso;omega)|conv=>whnf)|(refine aI ?_)|(apply aN<;>intro _<;>first|(exfalso;omega)|conv=>whnf))
   .have hyn:nz y=false:=by unfold nz;rw[decide_eq_true Ab];rfl
    exact⟨rfl,R.length,by simp,_::J,K,m::Mi++[y],P++[y],R,rfl,rfl,by
      rw[show K++(m::Mi++[y])++R=l1 by rw[hl1];simp];rfl,vi Aa,vi (by rw[aY2,hml,aZ0];omega),by simp,by rw[hP];simp,by rw[bBu,bDi,if_neg (by rw[hyn];decide),List.filter_nil,aZc,hK],by rw[aY2,aY2,hml,aZ0];omega⟩
   .have hyn:nz y=true:=by unfold nz;rw[decide_eq_false Ab];rfl
    exact⟨rfl,R.length,by simp,_::J,K++[y],Mi++[y],P++[y],R,rfl,rfl,rfl,vi (by rw[aY2,aZ0];omega),vi (by rw[aY2,aY2,aZ0];omega),by simp,by rw[hP];simp,by rw[bBu,bDi,if_pos hyn,List.filter_nil,hK],by rw[aY2,aY2,aY2,aZ0];omega⟩
end Go.Proofs.Y
/- Sorting and deleting where there is no row; rules for rows of terms. -/
namespace Go.Vc
open Go Go.Dig
def pq(x:El):Mon × Rat:=(x.m,x.q)
theorem LpN.keepOnly{body:fQ->Env->aA->Own->Prop}{ws:List Nat}{Q:fQ}{ρ:Env}{h:aA}{L:Own}{b:Nat}{o:Obj}(n:Nat)(hn:L[n]?=some (b,o))(hk:∀h',h.le h'->h' b=some o->LpN body ws Q ρ h' []):LpN body ws Q ρ h L:=by
 refine⟨.keep n hn fun hle=>?_⟩
 obtain⟨x⟩:=hk _ hle AB;have:∀(L:Own),FzN (fun h1 L1=>∃(I:Nat->Env->aA->Own->Prop),(∃n,I n ρ h1 L1)/\
   ∀n ρ' h' L',ρ'=over ws 0 ρ ρ'->I n ρ' h' L'->
     body (fun e ρ'' h'' L''=>match e with|.normal=>ρ''=over ws 0 ρ ρ''/\∃m,m<n/\I m ρ'' h'' L''|e=>Q e ρ'' h'' L'') ρ' h' L') (h.put b o) L:=fun L=>by
  induction L with
  | nil=>exact x
  | cons y L ih=>exact .drop 0 ih
 exact this _
theorem LdN.elI{h:aA}{L:Own}{bp:Nat}{l:List El}{zs:List Value}{i:Nat}{x:El}{T:TypeId}{fz:Nat × Nat}{k:Value->Prop}(hb:h bp=some (.cells (fl l++zs).toArray T fz))(hx:l[i]?=some x)(hk:k (.agg x.cells.toArray)):LdN h L ⟨bp,0+i*4,none⟩ 4 k:=
 ⟨x.cells,rfl,fun j hj=>by
   rw[aZ,aZq];refine Has.imm hb ?_;have hj4:j<4:=hj;have hi:=(aY5.1 hx).1;rw[aZx,aZe (by rw[cY];omega),aCb hx j hj4,aY3,aY4 hj];rfl,hk⟩
theorem eR{l:List El}{zs:List Value}{i k:Nat}{x:El}{v:Value}(hx:l[i]?=some x)(hk:k<4)(hv:x.cells[k]?=some v):(fl l++zs).toArray[0+i*4+k]?=some v:=by
 have hi:=(aY5.1 hx).1;rw[aZq,aZx,aZe (by rw[cY];omega),aCb hx k hk,hv]
theorem Has.elF{h:aA}{L:Own}{bp:Nat}{l:List El}{zs:List Value}{i k:Nat}{x:El}{v:Value}{T:TypeId}{fz:Nat × Nat}(n:Nat)(hb:L[n]?=some (bp,.cells (fl l++zs).toArray T fz))(hx:l[i]?=some x)(hk:k<4)(hv:x.cells[k]?=some v):Has h L ⟨bp,0+i*4+k,none⟩ v:=
 Has.own n hb (eR hx hk hv)
theorem LdN.el3{h:aA}{L:Own}{bp:Nat}{l:List El}{zs:List Value}{i:Nat}{x:El}{T:TypeId}{fz:Nat × Nat}{k:Value->Prop}(n:Nat)(hb:L[n]?=some (bp,.cells (fl l++zs).toArray T fz))(hx:l[i]?=some x)(hk:k (.agg #[.bool x.neg,x.n.val,x.d.val])):LdN h L ⟨bp,0+i*4+0,none⟩ 3 k:=
 LdN.three (l:=fl l++zs) (.inr (aY8 hb)) (by have:=eR (zs:=zs) (k:=0) (v:=.bool x.neg) hx Ag rfl;rw[aZx] at this;exact this) (by have:=eR (zs:=zs) (k:=1) (v:=x.n.val) hx Ag rfl;rw[aZx] at this;exact this) (by have:=eR (zs:=zs) (k:=2) (v:=x.d.val) hx Ag rfl;rw[aZx] at this;exact this) hk
theorem Sto.el3{L:Own}{bp:Nat}{l:List El}{zs:List Value}{i:Nat}{x y:El}{T:TypeId}{k:Own->Prop}(n:Nat)(hb:L[n]?=some (bp,.cells (fl l++zs).toArray T (0,0)))(hx:l[i]?=some x)(hf:y.f=x.f)(hk:k (L.set n (bp,.cells (fl (l.set i y)++zs).toArray T (0,0)))):Sto L ⟨bp,0+i*4+0,none⟩ [.bool y.neg,y.n.val,y.d.val] k:=by
 have hi:=(aY5.1 hx).1;refine⟨rfl,n,(fl l++zs).toArray,T,hb,?_,rfl,?_⟩
 .rw[bA4,aY2,cY];show 0+i*4+0+3<=_;omega
 .rw[gR];have e:kL [.bool y.neg,y.n.val,y.d.val] (fl l++zs) (0+i*4+0)=fl (l.set i y)++zs:=by
   have hle:i*4+4<=(fl l++zs).length:=by rw[aY2,cY];omega
   rw[<-aIl y hi,aZq,bAg,jC _ _ _ (by show i*4+3<=_;omega),jC _ _ _ (by rw[y.cells_len];exact hle)];have h3:(fl l++zs)[i*4+3]?=some y.f.val:=by
    have:=eR (zs:=zs) (k:=3) (v:=x.f.val) hx Ag rfl;rw[aZx,aZq] at this;rw[this,hf]
   have h4:=(aY5.1 h3);show List.take (i*4) (fl l++zs)++[.bool y.neg,y.n.val,y.d.val]++List.drop (i*4+3) (fl l++zs)=List.take (i*4) (fl l++zs)++y.cells++List.drop (i*4+4) (fl l++zs);rw[aZ2 h4.1,h4.2];simp only[aY7]
   rfl
  rw[e];exact hk
end Go.Vc
namespace Go.Proofs.Y
open Go Go.Vc Go.Dig
attribute [local irreducible] Vc.Fn FnP
theorem aEs(h:aA):Fn0 T F.q256 [.slice none 0 0,.int .i64 0,.int .i64 0,.func (.func F.q209) #[] #[]] h fun v h'=>h'=h:=by
 refine f0C ok D.q256 rfl ?_;conv=>whnf
 repeat' ((first|((first|apply oI.z|apply cI.z))|refine WN.i64 Aa Aa ?_)<;>conv=>whnf)
 refine LpN.of (fun r ρ hx L=>hx=h/\rd ρ 8=.int .i64 1) 0 ⟨rfl,rfl⟩ ?_
 conv=>whnf
 repeat intro _
 rename_i r hx L2 hI;obtain⟨rfl,e8⟩:=hI;conv at e8=>lhs;whnf
 subst e8;conv=>whnf
 repeat' ((first|((first|apply oI.z|apply cI.z))|(apply aB<;>intro _<;>try (exfalso;omega)))<;>conv=>whnf)
 exact RN.a rfl
theorem aGx(h:aA):Fn0 T F.q239 [.slice none 0 0,.int .i64 0,.func (.func F.q209) #[] #[]] h fun v h'=>h'=h:=by
 have c1:=aEs;refine f0C ok D.q239 rfl ?_;conv=>whnf
 repeat ((first|apply oI.z|apply cI.z);conv=>whnf)
 skip
 refine LpN.of (fun r ρ hx L=>hx=h/\rd ρ 7=.int .i64 0/\rd ρ 8=.int .i64 20) 0 ⟨rfl,rfl,rfl⟩ ?_
 conv=>whnf
 repeat intro _
 rename_i r hx L2 hI;obtain⟨rfl,e7,e8⟩:=hI;conv at e7=>lhs;whnf
 subst e7;conv at e8=>lhs;whnf
 subst e8;conv=>whnf
 repeat' ((first|(show CN _ _ _ _ _ _;(refine CN.f rfl (c1 _) (fun v h' hl hr=>?_);subst hr))|((first|apply oI.z|apply cI.z))|(apply bH<;>intro _<;>try (exfalso;omega)))<;>conv=>whnf)
 refine LpN.of (fun r ρ hx L=>hx=h'/\rd ρ 6=.int .i64 20) 0 ⟨rfl,rfl⟩ ?_
 conv=>whnf
 repeat intro _
 rename_i r hx L2 hI;obtain⟨rfl,e6⟩:=hI;conv at e6=>lhs;whnf
 subst e6;conv=>whnf
 repeat' ((first|((first|apply oI.z|apply cI.z))|(apply aB<;>intro _<;>try (exfalso;omega)))<;>conv=>whnf)
 exact RN.a rfl
theorem xX(h:aA):Fn0 T F.q208 [.slice none 0 0,.func (.func F.q209) #[] #[]] h fun v h'=>h'=h:=by
 have c1:=aGx;refine f0C ok D.q208 rfl ?_;conv=>whnf
 repeat' ((first|(show CN _ _ _ _ _ _;(refine CN.f rfl (c1 _) (fun v h' hl hr=>?_);subst hr))|((first|apply oI.z|apply cI.z)))<;>conv=>whnf)
 exact RN.a rfl
theorem yZ(h:aA):Fn0 T F.q244 [.slice none 0 0,.func (.func F.q212) #[] #[]] h fun v h'=>h'=h/\v=.int .i64 (-1):=by
 refine f0C ok D.q244 rfl ?_;conv=>whnf
 repeat ((first|apply oI.z|apply cI.z);conv=>whnf)
 skip
 refine LpN.of (fun r ρ hx L=>hx=h/\rd ρ 8=.int .i64 0) 0 ⟨rfl,rfl⟩ ?_
 conv=>whnf
 repeat intro _
 rename_i r hx L2 hI;obtain⟨rfl,e8⟩:=hI;conv at e8=>lhs;whnf
 subst e8;conv=>whnf
 repeat' ((first|((first|apply oI.z|apply cI.z))|(apply aB<;>intro _<;>try (exfalso;omega)))<;>conv=>whnf)
 exact RN.a ⟨rfl,rfl⟩
theorem pS(h:aA):Fn0 T F.q211 [.slice none 0 0,.func (.func F.q212) #[] #[]] h fun v h'=>h'=h/\v=.slice none 0 0:=by
 have c1:=yZ h;refine f0C ok D.q211 rfl ?_;conv=>whnf
 repeat' ((first|(show CN _ _ _ _ _ _;refine CN.quiet rfl c1 ?_)|((first|apply oI.z|apply cI.z))|(apply aD<;>intro _<;>try (exfalso;omega)))<;>conv=>whnf)
 exact RN.a ⟨rfl,rfl⟩
end Go.Proofs.Y