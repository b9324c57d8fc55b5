/- Literals of values: the law's own function. -/
import Derived.Test.YtiohcpiloenmoaaGreatDoorE69A
set_option linter.all false
set_option maxHeartbeats 4000000
set_option maxRecDepth 20000
namespace Go.Proofs.Y
open Go Go.Vc Go.Dig
def BC(h:aA):List Value->List (List Nat × Tr)->Prop
 | xs,[]=>xs=[]
 | xs,(n,t)::bs=>∃vs ys,xs=(.string (txt n)::vs)++ys/\(∀y∈n,y<256)/\vs.length=7/\IsE h vs t/\BC h ys bs
theorem BC.mono{h h':aA}(hl:h.le h'):∀{bs:List (List Nat × Tr)} {xs:List Value},BC h xs bs->BC h' xs bs
 | [],_,e=>e
 | (_,_)::_,_,⟨vs,ys,e,b,l,i,r⟩=>⟨vs,ys,e,b,l,i.mono hl,BC.mono hl r⟩
theorem BC.snoc{h:aA}{n:List Nat}{vs:List Value}{t:Tr}(hb:∀y∈n,y<256)(hv:vs.length=7)(i:IsE h vs t):∀{bs:List (List Nat × Tr)} {xs:List Value},BC h xs bs->BC h (xs++(.string (txt n)::vs)) (bs++[(n,t)])
 | [],_,e=>⟨vs,[],by rw[show _=[] from e];simp,hb,hv,i,rfl⟩
 | (_,_)::_,_,⟨us,ys,e,b,l,j,r⟩=>⟨us,ys++(.string (txt n)::vs),by rw[e,aY7],b,l,j,BC.snoc hb hv i r⟩
theorem BC.isb{h:aA}{c:Array Value}:∀{bs:List (List Nat × Tr)} {xs:List Value} {off:Nat},BC h xs bs->(∀i,i<xs.length->c[off+i]?=xs[i]?)->tZ h c off bs
 | [],_,_,_,_=>trivial
 | (n,t)::bs,xs,off,⟨vs,ys,e,b,l,j,r⟩,g=>by
  subst e;refine⟨⟨?_,b,vs,l,fun i hi=>?_,j⟩,BC.isb r fun i hi=>?_⟩
  .have:=g 0 Ar
   rwa [bAg] at this
  .have:=g (1+i) As;rw[<-bA6] at this;rw[this,bAk,show 1+i=i+1 by omega,bBo,aZe Aa]
  .have:=g (8+i) As;rw[<-bA6] at this;rw[this,bAk,show 8+i=(7+i)+1 by omega,bBo,aZo Aa,show 7+i-vs.length=i by omega]
theorem RN.rowB{e:TypeId}{v:Value}{n:Nat}{xs:List Value}{acc:List (List Nat × Tr)}{h:aA}{X tl:Vc.Own}{R:Value->aA->Prop}(g:aE e 8 v n xs X)(k:BC h xs acc)(hn:n=acc.length)
  (hk:∀h' (s:Sl),h.le h'->v=s.val->IsB h' s acc->R v h'):RN v h (X++tl) fun v h' L'=>L'=[]/\R v h':=by
 obtain⟨g1,⟨rfl,rfl⟩|⟨i,b,cap,zs,rfl,h2,h3,h4⟩⟩:=g
 .obtain rfl:acc=[]:=aZ3.1 hn.symm;exact RN.a (hk h ⟨none,0,0⟩ (aA.lr _) rfl ⟨rfl,aZt _,.inl rfl⟩)
 .have hlt:=(aY5.1 h2).1;refine RN.keep i (by rw[aZe hlt];exact h2) fun hle=>?_
  refine RN.a (hk _ ⟨some ⟨b,0,none⟩,n,cap⟩ hle rfl ⟨hn,h3,.inr ⟨b,0,(xs++zs).toArray,e,(0,0),rfl,by simp[aA.put],BC.isb (k.mono hle) fun i hi=>?_⟩⟩)
  rw[aZq,aZx,aZe hi]
theorem pW:∀{n:Nat} {ts:List Tr} {i:Nat} {t:Tr} {r:Tr × Tr × Tr},(∀(j:Nat) u,j<i->ts[j]?=some u->dO u=none)->ts[i]?=some t->dO t=some r->i<n->jK n ts=some (i,r)
 | 0,_,_,_,_,_,_,_,h=>by omega
 | _+1,[],_,_,_,_,h,_,_=>by simp at h
 | n+1,u::ts,0,t,r,_,h,e,_=>by
  simp at h;subst h;rw[jK,e]
 | n+1,u::ts,i+1,t,r,g,h,e,hi=>by
  rw[jK,g 0 u Aa rfl,pW (n:=n) (ts:=ts) (i:=i) (fun j v a b=>g (j+1) v Aa (by simpa using b)) (by simpa using h) e Aa]
theorem mS:∀{n:Nat} {ts:List Tr},(∀(j:Nat) u,j<n->ts[j]?=some u->dO u=none)->jK n ts=none
 | 0,_,_=>by rw[jK]
 | _+1,[],_=>by rw[jK]
 | n+1,u::ts,g=>by
  rw[jK,g 0 u Aa rfl,mS (n:=n) (ts:=ts) fun j v a b=>g (j+1) v Aa (by simpa using b)]
def vD(h:aA)(v:Value)(R:Option (Tr × Tr × Tr)):Prop:=∃(c y n:Value) (b:Bool) (C Y N:Tr),v=.tuple #[c,y,n,.bool b]/\VE h c C/\VE h y Y/\VE h n N/\(b=true->R=some (C,Y,N))/\(b=false->R=none/\C=aL/\Y=aL/\N=aL)
theorem zE(op arg:Int)(neg:Bool)(l m name:List Nat)(ks:List Tr)(ih:∀u,szT u<szT (.mk op arg neg l m name ks)->∀(d:Nat),okT d u->∀(h:aA) (vs:List Value),IsE h vs u->Fn0 T F.q28 [.agg vs.toArray] h fun v h'=>vD h' v (dO u))
  (d:Nat) (hok:okT d (.mk op arg neg l m name ks)) (h:aA) (vs:List Value) (w:IsE h vs (.mk op arg neg l m name ks)) (o15:op=15):Fn0 T F.q28 [.agg vs.toArray] h fun v h'=>vD h' v (dO (.mk op arg neg l m name ks)):=by
  obtain⟨a,b,s,rfl,ho,ha,hv,hb,hk⟩:=w.isK;rw[okT] at hok;obtain⟨hd,hnb,hoks⟩:=hok;have hkl:=hk.len;have hkc:=hk.cap;have hn1:=hnb.1;have hks:ks.length<=3:=by
   have h2:=cR op;omega
  have c3:=fun (i:Nat) (hi:i<ks.length) t h vs us w w'=>aJa op arg neg l m name ks i hi hks t h vs us w w'
  have h3:ks.length=3:=by rw[o15] at hn1;have:aV 15=3:=rfl;omega
  have fk:∀(i:Nat) t r,i<1->ks[i]?=some t->(∀(j:Nat) u,j<i->ks[j]?=some u->dO u=none)->dO t=some r->dO (.mk op arg neg l m name ks)=some (r.1,.mk op arg neg l m name (ks.set i r.2.1),.mk op arg neg l m name (ks.set i r.2.2)):=fun i t r a b c e=>sS (by rw[if_pos o15];exact pW c b e a)
  have fn:(∀(j:Nat) u,j<1->ks[j]?=some u->dO u=none)->dO (.mk op arg neg l m name ks)=aCg op ks:=fun g=>sU (by rw[if_pos o15];exact mS g)
  have hkf:=hk.front (i:=1) Aa;obtain⟨R,hR⟩:=AE (dO (.mk op arg neg l m name ks));rw[<-hR] at fk fn ⊢;clear hR;refine f0C ok D.q28 rfl ?_;conv=>whnf
  repeat' ((first|(apply aO.go)|(show jM _ _ _ _ _ _;refine jM.front 1 rfl Aa ?_)|((first|apply oI.z|apply cI.z))|intro (_:Nat)|refine Ld.o 3 rfl rfl ?_|(apply aD<;>intro _<;>try (exfalso;omega)))<;>conv=>whnf)
  rename_i b1 b2 b3 b4 xx;refine LpN.of (fun r ρ hx L=>∃(j:Nat) (X:Vc.Own),r=1-j/\h.le hx/\j<=1/\rd ρ 27=.int .i64 j/\L=X++((b4,.cells [.int .i64 0,.int .i64 0,.bool false,.slice none 0 0,.slice none 0 0,.string (txt []),.slice none 0 0].toArray Ty.api_Expr (0,0))::(b3,.cells [.int .i64 0,.int .i64 0,.bool false,.slice none 0 0,.slice none 0 0,.string (txt []),.slice none 0 0].toArray Ty.api_Expr (0,0))::(b2,.cells [.int .i64 0,.int .i64 0,.bool false,.slice none 0 0,.slice none 0 0,.string (txt []),.slice none 0 0].toArray Ty.api_Expr (0,0))::(b1,.cells [.int .i64 op,.int .i64 arg,.bool neg,a.val,b.val,.string (txt name),s.val].toArray Ty.api_Expr (0,0))::[])/\Hq (∀(i:Nat) t,i<j->ks[i]?=some t->dO t=none)) (1)
   ⟨0,[],rfl,aA.lr _,aZs _,rfl,rfl,⟨fun i t x=>absurd x (Nat.not_lt_zero _)⟩⟩ ?_
  conv=>whnf
  repeat intro _
  rename_i r hx L2 hI;obtain⟨j,X,rfl,hle,hj,e27,rfl,hq⟩:=hI;conv at e27=>lhs;whnf
  subst e27;have hkx:=hk.mono hle;by_cases hjl:j=1
  .have hR:=fn fun j' u x y=>hq.out j' u Aa y
   have o:=o15
   .have hn1:ks.length=3:=by rw[o] at hn1;have hk0:aV 15=3:=rfl;omega
    obtain⟨k0,e0⟩:∃k,ks[0]?=some k:=⟨_,aY4 Aa⟩
    obtain⟨k1,e1⟩:∃k,ks[1]?=some k:=⟨_,aY4 Aa⟩
    obtain⟨k2,e2⟩:∃k,ks[2]?=some k:=⟨_,aY4 Aa⟩
    have hR2:R=some (k0,k1,k2):=by
     rw[hR,o];simp only[aCg,aY3,e0,e1,e2]
     rfl
    conv=>whnf
    repeat' first|((first|(refine⟨fun _=>⟨aF.o Am,by repeat first|exact bAd _|apply List.Sublist.cons_cons|refine List.Sublist.trans ?_ (bAe _ _)|apply List.Sublist.cons⟩,?_⟩)|(refine hld4 _ _ _ Ad ?_)|(refine hld5 _ _ _ Ad ?_)|(refine hld6 _ _ _ Ad ?_)|((first|apply oI.z|apply cI.z))|(show DrN _ _ _ _ _ _;refine DrN.own [_] ((List.Sublist.cons _ (List.Sublist.cons _ (List.Sublist.cons _ (List.Sublist.cons_cons _ (bAd _))))).trans (bAe _ _)) Al ?_)|(show Ld _ _ _ _;first|refine Ld.tl3 (A:=[]) (F:=X) (G:=[_,_,_]) rfl ?_|refine Ld.o 0 rfl rfl ?_)|(show Idx _ _ _ _ _;first|refine Idx.kid hkx 0 k0 Aa e0 (fun ad4 op4 ar4 ng4 nn4 dd4 nm4 ss4 hE4 hld4=>?_)|refine Idx.kid hkx 1 k1 Aa e1 (fun ad5 op5 ar5 ng5 nn5 dd5 nm5 ss5 hE5 hld5=>?_)|refine Idx.kid hkx 2 k2 Aa e2 (fun ad6 op6 ar6 ng6 nn6 dd6 nm6 ss6 hE6 hld6=>?_))|(show Sto _ _ _ _;first|refine Sto.tl3 (A:=[]) (F:=X) (G:=[_,_]) rfl rfl ?_|refine Sto.tl3 (A:=[]) (F:=X) (G:=[_]) rfl rfl ?_|refine Sto.tl3 (A:=[]) (F:=X) (G:=[]) rfl rfl ?_)|(show LdN _ _ _ _ _;first|refine LdN.tl3 (A:=[]) (F:=X) (G:=[_,_]) rfl ?_|refine LdN.tl3 (A:=[]) (F:=X) (G:=[_]) rfl ?_|refine LdN.tl3 (A:=[]) (F:=X) (G:=[]) rfl ?_))<;>conv=>whnf)|(show cnd _ _ _;first|((first|apply aB|apply aD)<;>intro _<;>first|(exfalso;omega)|conv=>whnf))
    all_goals
     refine RN.a (R:=fun v h'=>vD h' v R) ?_
     exact⟨_,_,_,true,k0,k1,k2,rfl,⟨op4,ar4,ng4,nn4,dd4,nm4,ss4,rfl,hE4.mono Ad⟩,⟨op5,ar5,ng5,nn5,dd5,nm5,ss5,rfl,hE5.mono Ad⟩,⟨op6,ar6,ng6,nn6,dd6,nm6,ss6,rfl,hE6.mono Ad⟩,(fun _=>hR2),fun x=>by cases x⟩
  .obtain⟨t,ht⟩:∃t,ks[j]?=some t:=⟨_,aY4 Aa⟩
   have c2:=fun h vs w=>ih t (bM ht) (d+1) (kH hoks ht) h vs w
   have c3:=c3 j Aa;have fk:=fk j t;have hqo:=hq.out;obtain⟨RK,hRK⟩:=AE (dO t);rw[<-hRK] at c2 fk;have wx:=w.mono hle;conv=>whnf
   repeat' first|((first|(show DrN _ _ _ _ _ _;refine DrN.run Al ?_)|(show Idx _ _ _ _ _;(refine Idx.kid (hkf.mono hle) j t Aa (by rw[bA5,if_pos Aa];exact ht) (fun ad op2 arg2 neg2 a2 b2 name2 s2 hE hld=>?_)))|refine hld _ _ _ (aA.lr _) ?_|((first|apply oI.z|apply cI.z))|refine⟨fun _=>aF.o Ab,?_⟩|refine⟨fun hst=>(by cases (show true=false from hst)),?_⟩|intro (_:Nat)|(show CN _ _ _ _ _ _;first|(refine CN.f rfl (c2 _ _ Ab) (fun v h' hl2 hr=>?_);obtain⟨_,_,_,bb,CC,YY,NN,rfl,⟨op4,ar4,ng4,nn4,dd4,nm4,ss4,rfl,hE4⟩,⟨op5,ar5,ng5,nn5,dd5,nm5,ss5,rfl,hE5⟩,⟨op6,ar6,ng6,nn6,dd6,nm6,ss6,rfl,hE6⟩,g1,g2⟩:=hr;have wx:=wx.mono hl2)|(refine CN.f rfl (c3 YY _ _ _ Af Af) (fun v h' hl2 hr=>?_);obtain⟨op7,ar7,ng7,nn7,dd7,nm7,ss7,rfl,hE7⟩:=hr)|(refine CN.f rfl (c3 NN _ _ _ Af Af) (fun v h' hl2 hr=>?_);obtain⟨op8,ar8,ng8,nn8,dd8,nm8,ss8,rfl,hE8⟩:=hr))|(show LdN _ _ _ _ _;first|refine LdN.tl3 (A:=[_,_,_,_]) (F:=X) (G:=[_,_,_]) rfl ?_|refine LdN.tl3 (A:=[_,_,_,_]) (F:=X) (G:=[_,_]) rfl ?_|refine LdN.tl3 (A:=[_,_,_,_]) (F:=X) (G:=[_]) rfl ?_|refine LdN.tl3 (A:=[_,_,_,_]) (F:=X) (G:=[]) rfl ?_|refine LdN.o 0 rfl rfl ?_|refine LdN.o 1 rfl rfl ?_|refine LdN.o 2 rfl rfl ?_)|(show Sto _ _ _ _;first|refine Sto.tl3 (A:=[_,_,_,_]) (F:=X) (G:=[_,_]) rfl rfl ?_|refine Sto.tl3 (A:=[_,_,_,_]) (F:=X) (G:=[_]) rfl rfl ?_|refine Sto.tl3 (A:=[_,_,_,_]) (F:=X) (G:=[]) rfl rfl ?_|refine Sto.l 0 rfl rfl rfl ?_|refine Sto.l 1 rfl rfl rfl ?_|refine Sto.l 2 rfl rfl rfl ?_)|refine WN.i64 Aa Aa ?_)<;>conv=>whnf)|(show cnd _ _ _;first|(apply aB<;>intro _<;>first|(exfalso;omega)|conv=>whnf)|(refine bQ (fun hb=>?_) (fun hb=>?_)<;>(first|cases hb|subst hb)<;>(conv=>whnf)))
   .refine RN.a (R:=fun v h'=>vD h' v R) ?_
    exact⟨_,_,_,true,CC,.mk op arg neg l m name (ks.set j YY),.mk op arg neg l m name (ks.set j NN),rfl,⟨op4,ar4,ng4,nn4,dd4,nm4,ss4,rfl,Af⟩,⟨op7,ar7,ng7,nn7,dd7,nm7,ss7,rfl,Af⟩,⟨op8,ar8,ng8,nn8,dd8,nm8,ss8,rfl,Ab⟩,(fun _=>by rw[fk _ Aa ht hqo (g1 rfl)]),fun x=>by cases x⟩
   .exact⟨rfl,1-(j+1),Aa,j+1,_::_::_::_::X,rfl,Ac,Aa,vi Aa,rfl,⟨fun i t' x y=>by
      rcases Nat.lt_succ_iff_lt_or_eq.1 x with x|rfl
      .exact hqo i t' x y
      .rw[ht] at y;cases y;rw[<-hRK];exact (g2 rfl).1⟩⟩
theorem aCu(op arg:Int)(neg:Bool)(l m name:List Nat)(ks:List Tr)(ih:∀u,szT u<szT (.mk op arg neg l m name ks)->∀(d:Nat),okT d u->∀(h:aA) (vs:List Value),IsE h vs u->Fn0 T F.q28 [.agg vs.toArray] h fun v h'=>vD h' v (dO u))
  (d:Nat) (hok:okT d (.mk op arg neg l m name ks)) (h:aA) (vs:List Value) (w:IsE h vs (.mk op arg neg l m name ks)) (o15:¬op=15):Fn0 T F.q28 [.agg vs.toArray] h fun v h'=>vD h' v (dO (.mk op arg neg l m name ks)):=by
  obtain⟨a,b,s,rfl,ho,ha,hv,hb,hk⟩:=w.isK;rw[okT] at hok;obtain⟨hd,hnb,hoks⟩:=hok;have hkl:=hk.len;have hkc:=hk.cap;have hn1:=hnb.1;have hks:ks.length<=3:=by
   have h2:=cR op;omega
  have c3:=fun (i:Nat) (hi:i<ks.length) t h vs us w w'=>aJa op arg neg l m name ks i hi hks t h vs us w w'
  have fk:∀(i:Nat) t r,i<ks.length->ks[i]?=some t->(∀(j:Nat) u,j<i->ks[j]?=some u->dO u=none)->dO t=some r->dO (.mk op arg neg l m name ks)=some (r.1,.mk op arg neg l m name (ks.set i r.2.1),.mk op arg neg l m name (ks.set i r.2.2)):=fun i t r a b c e=>sS (by rw[if_neg o15];exact pW c b e a)
  have fn:(∀(j:Nat) u,j<ks.length->ks[j]?=some u->dO u=none)->dO (.mk op arg neg l m name ks)=aCg op ks:=fun g=>sU (by rw[if_neg o15];exact mS g)
  obtain⟨R,hR⟩:=AE (dO (.mk op arg neg l m name ks));rw[<-hR] at fk fn ⊢;clear hR;refine f0C ok D.q28 rfl ?_;conv=>whnf
  repeat' ((first|(apply aO.go)|((first|apply oI.z|apply cI.z))|intro (_:Nat)|refine Ld.o 3 rfl rfl ?_|(apply aD<;>intro _<;>try (exfalso;omega)))<;>conv=>whnf)
  rename_i b1 b2 b3 b4 xx;refine LpN.of (fun r ρ hx L=>∃(j:Nat) (X:Vc.Own),r=ks.length-j/\h.le hx/\j<=ks.length/\rd ρ 27=.int .i64 j/\L=X++((b4,.cells [.int .i64 0,.int .i64 0,.bool false,.slice none 0 0,.slice none 0 0,.string (txt []),.slice none 0 0].toArray Ty.api_Expr (0,0))::(b3,.cells [.int .i64 0,.int .i64 0,.bool false,.slice none 0 0,.slice none 0 0,.string (txt []),.slice none 0 0].toArray Ty.api_Expr (0,0))::(b2,.cells [.int .i64 0,.int .i64 0,.bool false,.slice none 0 0,.slice none 0 0,.string (txt []),.slice none 0 0].toArray Ty.api_Expr (0,0))::(b1,.cells [.int .i64 op,.int .i64 arg,.bool neg,a.val,b.val,.string (txt name),s.val].toArray Ty.api_Expr (0,0))::[])/\Hq (∀(i:Nat) t,i<j->ks[i]?=some t->dO t=none)) (ks.length)
   ⟨0,[],rfl,aA.lr _,aZs _,rfl,rfl,⟨fun i t x=>absurd x (Nat.not_lt_zero _)⟩⟩ ?_
  conv=>whnf
  repeat intro _
  rename_i r hx L2 hI;obtain⟨j,X,rfl,hle,hj,e27,rfl,hq⟩:=hI;conv at e27=>lhs;whnf
  subst e27;have hkx:=hk.mono hle;by_cases hjl:j=ks.length
  .have hR:=fn fun j' u x y=>hq.out j' u Aa y
   by_cases o12:op=12
   .have o:=o12;have hn1:ks.length=1:=by rw[o] at hn1;have hk0:aV 12=1:=rfl;omega
    obtain⟨k0,e0⟩:∃k,ks[0]?=some k:=⟨_,aY4 Aa⟩
    have hR2:R=some (k0,k0,aH 4 0 [k0]):=by
     rw[hR,o];simp only[aCg,aY3,e0]
     rfl
    conv=>whnf
    repeat' first|((first|(refine⟨fun _=>⟨aF.o Am,by repeat first|exact bAd _|apply List.Sublist.cons_cons|refine List.Sublist.trans ?_ (bAe _ _)|apply List.Sublist.cons⟩,?_⟩)|(refine hld4 _ _ _ Ad ?_)|((first|apply oI.z|apply cI.z))|intro (_:Nat)|(show DrN _ _ _ _ _ _;refine DrN.own [_] (by exact List.Sublist.cons_cons _ (bAd _)) Al ?_)|(show Ld _ _ _ _;refine Ld.tl3 (A:=[]) (F:=X) (G:=[_,_,_]) rfl ?_)|(show LdN _ _ _ _ _;first|refine LdN.o 0 rfl rfl ?_|refine LdN.tl3 (A:=[_]) (F:=X) (G:=[_,_]) rfl ?_|refine LdN.tl3 (A:=[_]) (F:=X) (G:=[_]) rfl ?_|refine LdN.tl3 (A:=[_]) (F:=X) (G:=[]) rfl ?_)|(show Idx _ _ _ _ _;refine Idx.kid hkx 0 k0 Aa e0 (fun ad4 op4 ar4 ng4 nn4 dd4 nm4 ss4 hE4 hld4=>?_))|(show CN _ _ _ _ _ _;(refine CN.keep 0 rfl rfl (fun hl2=>?_);refine CN.f rfl (gV 4 0 Ag Ag [k0] ⟨some ⟨_,0,none⟩,1,1⟩ _ (IsK.one (hE4.mono Ad) rfl hl2)) (fun v h3 hl3 hr=>?_);obtain⟨op9,ar9,ng9,nn9,dd9,nm9,ss9,rfl,hE9⟩:=hr))|(show Sto _ _ _ _;first|refine Sto.tl3 (A:=[_]) (F:=X) (G:=[_,_]) rfl rfl ?_|refine Sto.tl3 (A:=[_]) (F:=X) (G:=[_]) rfl rfl ?_|refine Sto.tl3 (A:=[_]) (F:=X) (G:=[]) rfl rfl ?_|refine Sto.l 0 rfl rfl rfl ?_))<;>conv=>whnf)|(show cnd _ _ _;first|((first|apply aB|apply aD)<;>intro _<;>first|(exfalso;omega)|conv=>whnf))
    all_goals
     refine RN.a (R:=fun v h'=>vD h' v R) ?_
     exact⟨_,_,_,true,k0,k0,aH 4 0 [k0],rfl,⟨op4,ar4,ng4,nn4,dd4,nm4,ss4,rfl,hE4.mono Ac⟩,⟨op4,ar4,ng4,nn4,dd4,nm4,ss4,rfl,hE4.mono Ac⟩,⟨op9,ar9,ng9,nn9,dd9,nm9,ss9,rfl,Ab⟩,(fun _=>hR2),fun x=>by cases x⟩
   by_cases o13:op=13
   .have o:=o13;have hn1:ks.length=2:=by rw[o] at hn1;have hk0:aV 13=2:=rfl;omega
    obtain⟨k0,e0⟩:∃k,ks[0]?=some k:=⟨_,aY4 Aa⟩
    obtain⟨k1,e1⟩:∃k,ks[1]?=some k:=⟨_,aY4 Aa⟩
    have hR2:R=some (aH 6 0 [k1,k0],k0,k1):=by
     rw[hR,o];simp only[aCg,aY3,e0,e1]
     rfl
    conv=>whnf
    repeat' first|((first|(refine⟨fun _=>⟨aF.o Am,by repeat first|exact bAd _|apply List.Sublist.cons_cons|refine List.Sublist.trans ?_ (bAe _ _)|apply List.Sublist.cons⟩,?_⟩)|(refine hld4 _ _ _ Ad ?_)|(refine hld5 _ _ _ Ad ?_)|((first|apply oI.z|apply cI.z))|intro (_:Nat)|(show DrN _ _ _ _ _ _;first|refine DrN.own [_,_] (by exact List.Sublist.cons_cons _ (List.Sublist.cons_cons _ (bAd _))) Al ?_|refine DrN.own [_] ((List.Sublist.cons _ (List.Sublist.cons _ (List.Sublist.cons _ (List.Sublist.cons_cons _ (bAd _))))).trans (bAe _ _)) Al ?_)|(show Ld _ _ _ _;first|refine Ld.tl3 (A:=[]) (F:=X) (G:=[_,_,_]) rfl ?_|refine Ld.o 0 rfl rfl ?_)|(show LdN _ _ _ _ _;first|refine LdN.o 0 rfl rfl ?_|refine LdN.o 1 rfl rfl ?_|refine LdN.tl3 (A:=[_,_]) (F:=X) (G:=[_,_]) rfl ?_|refine LdN.tl3 (A:=[_,_]) (F:=X) (G:=[_]) rfl ?_|refine LdN.tl3 (A:=[_,_]) (F:=X) (G:=[]) rfl ?_)|(show Idx _ _ _ _ _;first|refine Idx.kid hkx 0 k0 Aa e0 (fun ad4 op4 ar4 ng4 nn4 dd4 nm4 ss4 hE4 hld4=>?_)|refine Idx.kid hkx 1 k1 Aa e1 (fun ad5 op5 ar5 ng5 nn5 dd5 nm5 ss5 hE5 hld5=>?_))|(show CN _ _ _ _ _ _;(refine CN.keep 0 rfl rfl (fun hl2=>?_);refine CN.f rfl (gV 6 0 Ag Ag [k1,k0] ⟨some ⟨_,0,none⟩,2,2⟩ _ (IsK.two (hE5.mono Ad) (hE4.mono Ad) rfl rfl hl2)) (fun v h3 hl3 hr=>?_);obtain⟨op9,ar9,ng9,nn9,dd9,nm9,ss9,rfl,hE9⟩:=hr))|(show Sto _ _ _ _;first|refine Sto.tl3 (A:=[_,_]) (F:=X) (G:=[_,_]) rfl rfl ?_|refine Sto.tl3 (A:=[_,_]) (F:=X) (G:=[_]) rfl rfl ?_|refine Sto.tl3 (A:=[_,_]) (F:=X) (G:=[]) rfl rfl ?_|refine Sto.l 0 rfl rfl rfl ?_|refine Sto.l 1 rfl rfl rfl ?_))<;>conv=>whnf)|(show cnd _ _ _;first|((first|apply aB|apply aD)<;>intro _<;>first|(exfalso;omega)|conv=>whnf))|(refine kM.mk ?_ ?_<;>(conv=>whnf))
    all_goals
     refine RN.a (R:=fun v h'=>vD h' v R) ?_
     exact⟨_,_,_,true,aH 6 0 [k1,k0],k0,k1,rfl,⟨op9,ar9,ng9,nn9,dd9,nm9,ss9,rfl,Ab⟩,⟨op4,ar4,ng4,nn4,dd4,nm4,ss4,rfl,hE4.mono Ac⟩,⟨op5,ar5,ng5,nn5,dd5,nm5,ss5,rfl,hE5.mono Ac⟩,(fun _=>hR2),fun x=>by cases x⟩
   by_cases o14:op=14
   .have o:=o14;have hn1:ks.length=2:=by rw[o] at hn1;have hk0:aV 14=2:=rfl;omega
    obtain⟨k0,e0⟩:∃k,ks[0]?=some k:=⟨_,aY4 Aa⟩
    obtain⟨k1,e1⟩:∃k,ks[1]?=some k:=⟨_,aY4 Aa⟩
    have hR2:R=some (aH 6 0 [k0,k1],k0,k1):=by
     rw[hR,o];simp only[aCg,aY3,e0,e1]
     rfl
    conv=>whnf
    repeat' first|((first|(refine⟨fun _=>⟨aF.o Am,by repeat first|exact bAd _|apply List.Sublist.cons_cons|refine List.Sublist.trans ?_ (bAe _ _)|apply List.Sublist.cons⟩,?_⟩)|(refine hld4 _ _ _ Ad ?_)|(refine hld5 _ _ _ Ad ?_)|((first|apply oI.z|apply cI.z))|intro (_:Nat)|(show DrN _ _ _ _ _ _;first|refine DrN.own [_,_] (by exact List.Sublist.cons_cons _ (List.Sublist.cons_cons _ (bAd _))) Al ?_|refine DrN.own [_] ((List.Sublist.cons _ (List.Sublist.cons _ (List.Sublist.cons _ (List.Sublist.cons_cons _ (bAd _))))).trans (bAe _ _)) Al ?_)|(show Ld _ _ _ _;first|refine Ld.tl3 (A:=[]) (F:=X) (G:=[_,_,_]) rfl ?_|refine Ld.o 0 rfl rfl ?_)|(show LdN _ _ _ _ _;first|refine LdN.o 0 rfl rfl ?_|refine LdN.o 1 rfl rfl ?_|refine LdN.tl3 (A:=[_,_]) (F:=X) (G:=[_,_]) rfl ?_|refine LdN.tl3 (A:=[_,_]) (F:=X) (G:=[_]) rfl ?_|refine LdN.tl3 (A:=[_,_]) (F:=X) (G:=[]) rfl ?_)|(show Idx _ _ _ _ _;first|refine Idx.kid hkx 0 k0 Aa e0 (fun ad4 op4 ar4 ng4 nn4 dd4 nm4 ss4 hE4 hld4=>?_)|refine Idx.kid hkx 1 k1 Aa e1 (fun ad5 op5 ar5 ng5 nn5 dd5 nm5 ss5 hE5 hld5=>?_))|(show CN _ _ _ _ _ _;(refine CN.keep 0 rfl rfl (fun hl2=>?_);refine CN.f rfl (gV 6 0 Ag Ag [k0,k1] ⟨some ⟨_,0,none⟩,2,2⟩ _ (IsK.two (hE4.mono Ad) (hE5.mono Ad) rfl rfl hl2)) (fun v h3 hl3 hr=>?_);obtain⟨op9,ar9,ng9,nn9,dd9,nm9,ss9,rfl,hE9⟩:=hr))|(show Sto _ _ _ _;first|refine Sto.tl3 (A:=[_,_]) (F:=X) (G:=[_,_]) rfl rfl ?_|refine Sto.tl3 (A:=[_,_]) (F:=X) (G:=[_]) rfl rfl ?_|refine Sto.tl3 (A:=[_,_]) (F:=X) (G:=[]) rfl rfl ?_|refine Sto.l 0 rfl rfl rfl ?_|refine Sto.l 1 rfl rfl rfl ?_))<;>conv=>whnf)|(show cnd _ _ _;first|((first|apply aB|apply aD)<;>intro _<;>first|(exfalso;omega)|conv=>whnf))|(refine kM.mk ?_ ?_<;>(conv=>whnf))
    all_goals
     refine RN.a (R:=fun v h'=>vD h' v R) ?_
     exact⟨_,_,_,true,aH 6 0 [k0,k1],k0,k1,rfl,⟨op9,ar9,ng9,nn9,dd9,nm9,ss9,rfl,Ab⟩,⟨op4,ar4,ng4,nn4,dd4,nm4,ss4,rfl,hE4.mono Ac⟩,⟨op5,ar5,ng5,nn5,dd5,nm5,ss5,rfl,hE5.mono Ac⟩,(fun _=>hR2),fun x=>by cases x⟩
   .have hR2:R=none:=by rw[hR];exact uA.2 (by unfold dU;omega)
    conv=>whnf
    repeat' first|((first|(refine⟨fun _=>⟨aF.o Am,by repeat first|exact bAd _|apply List.Sublist.cons_cons|refine List.Sublist.trans ?_ (bAe _ _)|apply List.Sublist.cons⟩,?_⟩)|((first|apply oI.z|apply cI.z))|(show DrN _ _ _ _ _ _;refine DrN.own [_,_,_] ((List.Sublist.cons_cons _ (List.Sublist.cons_cons _ (List.Sublist.cons_cons _ (bAd _)))).trans (bAe _ _)) Al ?_)|(show Ld _ _ _ _;refine Ld.tl3 (A:=[]) (F:=X) (G:=[_,_,_]) rfl ?_)|(show LdN _ _ _ _ _;first|refine LdN.o 0 rfl rfl ?_|refine LdN.o 1 rfl rfl ?_|refine LdN.o 2 rfl rfl ?_|refine LdN.tl3 (A:=[]) (F:=X) (G:=[_,_]) rfl ?_|refine LdN.tl3 (A:=[]) (F:=X) (G:=[_]) rfl ?_|refine LdN.tl3 (A:=[]) (F:=X) (G:=[]) rfl ?_)|(show Sto _ _ _ _;first|refine Sto.tl3 (A:=[]) (F:=X) (G:=[_,_]) rfl rfl ?_|refine Sto.tl3 (A:=[]) (F:=X) (G:=[_]) rfl rfl ?_|refine Sto.tl3 (A:=[]) (F:=X) (G:=[]) rfl rfl ?_))<;>conv=>whnf)|(show cnd _ _ _;first|((first|apply aB|apply aD)<;>intro _<;>first|(exfalso;omega)|conv=>whnf))
    refine RN.a (R:=fun v h'=>vD h' v R) ?_
    exact⟨_,_,_,false,aL,aL,aL,rfl,VE.zero _,VE.zero _,VE.zero _,(fun x=>by cases x),fun _=>⟨hR2,rfl,rfl,rfl⟩⟩
  .obtain⟨t,ht⟩:∃t,ks[j]?=some t:=⟨_,aY4 Aa⟩
   have c2:=fun h vs w=>ih t (bM ht) (d+1) (kH hoks ht) h vs w
   have c3:=c3 j Aa;have fk:=fk j t;have hqo:=hq.out;obtain⟨RK,hRK⟩:=AE (dO t);rw[<-hRK] at c2 fk;have wx:=w.mono hle;conv=>whnf
   repeat' first|((first|(show DrN _ _ _ _ _ _;refine DrN.run Al ?_)|(show Idx _ _ _ _ _;refine Idx.kid hkx j t Aa ht (fun ad op2 arg2 neg2 a2 b2 name2 s2 hE hld=>?_))|refine hld _ _ _ (aA.lr _) ?_|((first|apply oI.z|apply cI.z))|refine⟨fun _=>aF.o Ab,?_⟩|refine⟨fun hst=>(by cases (show true=false from hst)),?_⟩|intro (_:Nat)|(show CN _ _ _ _ _ _;first|(refine CN.f rfl (c2 _ _ Ab) (fun v h' hl2 hr=>?_);obtain⟨_,_,_,bb,CC,YY,NN,rfl,⟨op4,ar4,ng4,nn4,dd4,nm4,ss4,rfl,hE4⟩,⟨op5,ar5,ng5,nn5,dd5,nm5,ss5,rfl,hE5⟩,⟨op6,ar6,ng6,nn6,dd6,nm6,ss6,rfl,hE6⟩,g1,g2⟩:=hr;have wx:=wx.mono hl2)|(refine CN.f rfl (c3 YY _ _ _ Af Af) (fun v h' hl2 hr=>?_);obtain⟨op7,ar7,ng7,nn7,dd7,nm7,ss7,rfl,hE7⟩:=hr)|(refine CN.f rfl (c3 NN _ _ _ Af Af) (fun v h' hl2 hr=>?_);obtain⟨op8,ar8,ng8,nn8,dd8,nm8,ss8,rfl,hE8⟩:=hr))|(show LdN _ _ _ _ _;first|refine LdN.tl3 (A:=[_,_,_,_]) (F:=X) (G:=[_,_,_]) rfl ?_|refine LdN.tl3 (A:=[_,_,_,_]) (F:=X) (G:=[_,_]) rfl ?_|refine LdN.tl3 (A:=[_,_,_,_]) (F:=X) (G:=[_]) rfl ?_|refine LdN.tl3 (A:=[_,_,_,_]) (F:=X) (G:=[]) rfl ?_|refine LdN.o 0 rfl rfl ?_|refine LdN.o 1 rfl rfl ?_|refine LdN.o 2 rfl rfl ?_)|(show Sto _ _ _ _;first|refine Sto.tl3 (A:=[_,_,_,_]) (F:=X) (G:=[_,_]) rfl rfl ?_|refine Sto.tl3 (A:=[_,_,_,_]) (F:=X) (G:=[_]) rfl rfl ?_|refine Sto.tl3 (A:=[_,_,_,_]) (F:=X) (G:=[]) rfl rfl ?_|refine Sto.l 0 rfl rfl rfl ?_|refine Sto.l 1 rfl rfl rfl ?_|refine Sto.l 2 rfl rfl rfl ?_)|refine WN.i64 Aa Aa ?_)<;>conv=>whnf)|(show cnd _ _ _;first|(apply aB<;>intro _<;>first|(exfalso;omega)|conv=>whnf)|(refine bQ (fun hb=>?_) (fun hb=>?_)<;>(first|cases hb|subst hb)<;>(conv=>whnf)))
   .refine RN.a (R:=fun v h'=>vD h' v R) ?_
    exact⟨_,_,_,true,CC,.mk op arg neg l m name (ks.set j YY),.mk op arg neg l m name (ks.set j NN),rfl,⟨op4,ar4,ng4,nn4,dd4,nm4,ss4,rfl,Af⟩,⟨op7,ar7,ng7,nn7,dd7,nm7,ss7,rfl,Af⟩,⟨op8,ar8,ng8,nn8,dd8,nm8,ss8,rfl,Ab⟩,(fun _=>by rw[fk _ Aa ht hqo (g1 rfl)]),fun x=>by cases x⟩
   .exact⟨rfl,ks.length-(j+1),Aa,j+1,_::_::_::_::X,rfl,Ac,Aa,vi Aa,rfl,⟨fun i t' x y=>by
      rcases Nat.lt_succ_iff_lt_or_eq.1 x with x|rfl
      .exact hqo i t' x y
      .rw[ht] at y;cases y;rw[<-hRK];exact (g2 rfl).1⟩⟩
theorem aFk:∀(t:Tr) (d:Nat),okT d t->∀(h:aA) (vs:List Value),IsE h vs t->Fn0 T F.q28 [.agg vs.toArray] h fun v h'=>vD h' v (dO t):=by
 refine dX fun t ih=>?_
 intro d hok h vs w;obtain⟨op,arg,neg,l,m,name,ks⟩:=t;by_cases o15:op=15
 .exact zE op arg neg l m name ks ih d hok h vs w o15
 .exact aCu op arg neg l m name ks ih d hok h vs w o15
def brT(cl:Tr->Tr)(t:Tr):Tr × Tr × Tr × Nat:=
 if aS t then match dO t with
  | none=>(aL,aL,aL,42)
  | some (c,y,n)=>if aS c/\aS y/\aS n then (cl c,cl y,cl n,0) else (aL,aL,aL,4)
 else (aL,aL,aL,40)
theorem aWw{cl:Tr->Tr}{t:Tr}(h:¬aS t):brT cl t=(aL,aL,aL,40):=if_neg h
theorem aQz{cl:Tr->Tr}{t:Tr}(h:aS t)(r:dO t=none):brT cl t=(aL,aL,aL,42):=by unfold brT;rw[if_pos h,r]
theorem aCv{cl:Tr->Tr}{t c y n:Tr}(h:aS t)(r:dO t=some (c,y,n))(x:¬(aS c/\aS y/\aS n)):brT cl t=(aL,aL,aL,4):=by unfold brT;rw[if_pos h,r];exact if_neg x
theorem aWx{cl:Tr->Tr}{t c y n:Tr}(h:aS t)(r:dO t=some (c,y,n))(x:aS c/\aS y/\aS n):brT cl t=(cl c,cl y,cl n,0):=by unfold brT;rw[if_pos h,r];exact if_pos x
theorem aHe{t:Tr}(h:(dR t).2≠0):¬aS t/\(dR t).2=4:=by
 by_cases v:aS t
 .rw[dR,if_pos v] at h;exact absurd rfl h
 .exact⟨v,by rw[dR,if_neg v]⟩
theorem aCw{t:Tr}(h:(dR t).2=0):aS t/\(dR t).1=fX t:=by
 by_cases v:aS t
 .exact⟨v,by rw[dR,if_pos v]⟩
 .rw[dR,if_neg v] at h;exact absurd h Ag
def aFl(h:aA)(v:Value)(x:Tr × Tr × Tr × Nat):Prop:=∃a b d,v=.tuple #[a,b,d,.int .i64 x.2.2.2]/\VE h a x.1/\VE h b x.2.1/\VE h d x.2.2.1
theorem aFl.zero(h:aA)(e:Nat):aFl h (.tuple #[.agg #[.int .i64 0,.int .i64 0,.bool false,.slice none 0 0,.slice none 0 0,.string (txt []),.slice none 0 0],.agg #[.int .i64 0,.int .i64 0,.bool false,.slice none 0 0,.slice none 0 0,.string (txt []),.slice none 0 0],.agg #[.int .i64 0,.int .i64 0,.bool false,.slice none 0 0,.slice none 0 0,.string (txt []),.slice none 0 0],.int .i64 e]) (aL,aL,aL,e):=
 ⟨_,_,_,rfl,VE.zero _,VE.zero _,VE.zero _⟩
theorem aCx(t:Tr)(hok:okT 1 t)(hn:dO t≠none)(h:aA)(vs:List Value)(w:IsE h vs t):Fn0 T F.q28 [.agg vs.toArray] h fun v h'=>∃c y n b C Y N,v=.tuple #[c,y,n,.bool b]/\VE h' c C/\VE h' y Y/\VE h' n N/\dO t=some (C,Y,N):=
 (aFk t 1 hok h vs w).mono fun v h' _ ⟨c,y,n,b,C,Y,N,e,x1,x2,x3,g1,g2⟩=>⟨c,y,n,b,C,Y,N,e,x1,x2,x3,by cases b;exact absurd (g2 rfl).1 hn;exact g1 rfl⟩
def BrR(t:Tr)(R:Tr × Tr × Tr × Nat)(c y n:Tr × Nat):Prop:=(c.2≠0->R=(aL,aL,aL,c.2))/\(y.2≠0->R=(aL,aL,aL,y.2))/\(n.2≠0->R=(aL,aL,aL,n.2))/\(c.2=0->y.2=0->n.2=0->R=(c.1,y.1,n.1,0))
theorem BrR.of{t c y n:Tr}(v:aS t)(r:dO t=some (c,y,n)):BrR t (brT fX t) (dR c) (dR y) (dR n):=by
 refine⟨fun x=>?_,fun x=>?_,fun x=>?_,fun x1 x2 x3=>?_⟩
 .obtain⟨h1,h2⟩:=aHe x;rw[aCv v r fun z=>h1 z.1,h2]
 .obtain⟨h1,h2⟩:=aHe x;rw[aCv v r fun z=>h1 z.2.1,h2]
 .obtain⟨h1,h2⟩:=aHe x;rw[aCv v r fun z=>h1 z.2.2,h2]
 .obtain⟨a1,b1⟩:=aCw x1;obtain⟨a2,b2⟩:=aCw x2;obtain⟨a3,b3⟩:=aCw x3;rw[aWx v r ⟨a1,a2,a3⟩,b1,b2,b3]
theorem aL7(t:Tr)(h:aA)(vs:List Value)(tb:Tb h)(w:IsE h vs t):Fn0 T F.q10 [.agg vs.toArray] h fun v h'=>aFl h' v (brT fX t):=by
 have c1:=fun h tb w=>jB t h vs tb w
 have c2:=fun h w (x:aS t)=>aAn t h vs w x.1
 have c3:=fun h w (x:aS t) hn=>aCx t x.1 hn h vs w
 have c5:=fun u h vs tb w=>lG u h vs tb w
 have r1:¬aS t->brT fX t=(aL,aL,aL,40):=fun x=>aWw x
 have r2:aS t->dO t=none->brT fX t=(aL,aL,aL,42):=fun x y=>aQz x y
 have r3:∀c y n,aS t->dO t=some (c,y,n)->BrR t (brT fX t) (dR c) (dR y) (dR n):=fun c y n x r=>BrR.of x r
 obtain⟨R,hR⟩:=AE (brT fX t);obtain⟨RS,hRS⟩:=AE (dO t);rw[<-hR] at r1 r2;rw[<-hRS] at c2 c3 r2;simp only[<-hR,<-hRS] at r3;rw[<-hR];clear hR hRS;obtain⟨⟨op,arg,neg,l,m,name,ks⟩,ht⟩:=AE t;obtain⟨a,b,s,hvs,-⟩:=(ht.symm▸w:IsE h vs (.mk op arg neg l m name ks)).isK;subst hvs;refine f0C ok D.q10 rfl ?_;conv=>whnf
 repeat' first|((first|(show DrN _ _ _ _ _ _;refine DrN.own [_,_,_] (by exact List.Sublist.cons_cons _ (List.Sublist.cons_cons _ (List.Sublist.cons_cons _ (bAd _)))) Al ?_)|(refine⟨fun _=>⟨aF.o Am,by repeat first|exact bAd _|apply List.Sublist.cons_cons|refine List.Sublist.trans ?_ (bAe _ _)|apply List.Sublist.cons⟩,?_⟩)|((first|apply oI.z|apply cI.z))|intro (_:Nat)|(apply aO.go)|(show LdN _ _ _ _ _;first|refine LdN.o 0 rfl rfl ?_|refine LdN.o 1 rfl rfl ?_|refine LdN.o 2 rfl rfl ?_|refine LdN.o 3 rfl rfl ?_)|(show CN _ _ _ _ _ _;first|(refine CN.f rfl (c1 _ Ab Ab) (fun v h' hl2 hr=>?_);subst hr)|(refine CN.f rfl (c2 _ Af Ab) (fun v h' hl2 hr=>?_);obtain⟨rfl,rfl⟩:=hr;clear hl2)|(refine CN.f rfl (c3 _ Af Ab Ab) (fun v h' hl2 hr=>?_);obtain⟨_,_,_,bb,CC,YY,NN,rfl,⟨op4,ar4,ng4,nn4,dd4,nm4,ss4,rfl,hE4⟩,⟨op5,ar5,ng5,nn5,dd5,nm5,ss5,rfl,hE5⟩,⟨op6,ar6,ng6,nn6,dd6,nm6,ss6,rfl,hE6⟩,hbb⟩:=hr;have br:=r3 CC YY NN Ab hbb;have c5c:=fun h vs tb w=>c5 CC h vs tb w;obtain⟨⟨Qc,qc⟩,hQc⟩:=AE (dR CC);rw[<-hQc] at c5c br;replace c5c:∀h vs,Tb h->IsE h vs CC->Fn0 T F.q26 [.agg vs.toArray] h fun v h'=>∃a,v=.tuple #[a,.int .i64 qc]/\VE h' a Qc:=c5c;clear hQc;have c5y:=fun h vs tb w=>c5 YY h vs tb w;obtain⟨⟨Qy,qy⟩,hQy⟩:=AE (dR YY);rw[<-hQy] at c5y br;replace c5y:∀h vs,Tb h->IsE h vs YY->Fn0 T F.q26 [.agg vs.toArray] h fun v h'=>∃a,v=.tuple #[a,.int .i64 qy]/\VE h' a Qy:=c5y;clear hQy;have c5n:=fun h vs tb w=>c5 NN h vs tb w;obtain⟨⟨Qn,qn⟩,hQn⟩:=AE (dR NN);rw[<-hQn] at c5n br;replace c5n:∀h vs,Tb h->IsE h vs NN->Fn0 T F.q26 [.agg vs.toArray] h fun v h'=>∃a,v=.tuple #[a,.int .i64 qn]/\VE h' a Qn:=c5n;clear hQn)|(refine CN.f rfl (c5c _ _ Ae Af) (fun v h' hl2 hr=>?_);obtain⟨_,rfl,op7,ar7,ng7,nn7,dd7,nm7,ss7,rfl,hE7⟩:=hr)|(refine CN.f rfl (c5y _ _ Ae Af) (fun v h' hl2 hr=>?_);obtain⟨_,rfl,op8,ar8,ng8,nn8,dd8,nm8,ss8,rfl,hE8⟩:=hr)|(refine CN.f rfl (c5n _ _ Ae Af) (fun v h' hl2 hr=>?_);obtain⟨_,rfl,op9,ar9,ng9,nn9,dd9,nm9,ss9,rfl,hE9⟩:=hr))|(show Idx _ _ _ _ _;first|refine Idx.of 0 rfl rfl Ag ?_|refine Idx.of 1 rfl rfl Ag ?_|refine Idx.of 2 rfl rfl Ag ?_)|(show Sto _ _ _ _;first|refine Sto.l 0 rfl rfl rfl ?_|refine Sto.l 1 rfl rfl rfl ?_|refine Sto.l 2 rfl rfl rfl ?_|refine Sto.l 3 rfl rfl rfl ?_))<;>conv=>whnf)|(show cnd _ _ _;first|(apply aD<;>intro _<;>first|(exfalso;omega)|conv=>whnf)|(refine aI ?_)|(apply aN<;>intro _<;>first|(exfalso;omega)|conv=>whnf))
 all_goals try first
  | (rw[r1 Ab];exact RN.a (aFl.zero _ 40))
  | (rw[r2 Ab Ab];exact RN.a (aFl.zero _ 42))
 refine LpN.count 52 3 (fun j=>(0<j->qc=0)/\(1<j->qy=0)/\(2<j->qn=0)) rfl ⟨fun x=>absurd x Ag,fun x=>absurd x Ag,fun x=>absurd x Ag⟩ ?_
 conv=>whnf
 repeat intro _
 rename_i j hj e52 hp;conv at e52=>lhs;whnf
 subst e52;obtain⟨p1,p2,p3⟩:=hp;obtain⟨b1,b2,b3,b4⟩:=br;replace b1:qc≠0->R=(aL,aL,aL,qc):=b1;replace b2:qy≠0->R=(aL,aL,aL,qy):=b2;replace b3:qn≠0->R=(aL,aL,aL,qn):=b3;replace b4:qc=0->qy=0->qn=0->R=(Qc,Qy,Qn,0):=b4;obtain rfl|rfl|rfl|rfl:j=0\/j=1\/j=2\/j=3:=Aa
 .conv=>whnf
  repeat' first|((first|(show DrN _ _ _ _ _ _;refine DrN.own [_,_,_] Au Al ?_)|(refine⟨fun _=>⟨aF.o Am,by repeat first|exact bAd _|apply List.Sublist.cons_cons|refine List.Sublist.trans ?_ (bAe _ _)|apply List.Sublist.cons⟩,?_⟩)|((first|apply oI.z|apply cI.z))|(show LdN _ _ _ _ _;first|refine LdN.o 0 rfl rfl ?_|refine LdN.o 1 rfl rfl ?_|refine LdN.o 2 rfl rfl ?_|refine LdN.o 4 rfl rfl ?_|refine LdN.o 5 rfl rfl ?_|refine LdN.o 6 rfl rfl ?_)|(show aA0 _ _ _ _ _ _ _;refine aA0.at 0 rfl Ag ?_)|refine WN.i64 Aa Aa ?_|(show Sto _ _ _ _;first|refine Sto.l 4 rfl rfl rfl ?_|refine Sto.l 5 rfl rfl rfl ?_|refine Sto.l 6 rfl rfl rfl ?_))<;>conv=>whnf)|(show cnd _ _ _;first|((first|apply aB|apply aD)<;>intro _<;>first|(exfalso;omega)|conv=>whnf)|(refine aI ?_))
  .exact⟨rfl,2,Aa,1,rfl,Aa,rfl,⟨fun _=>by omega,fun x=>absurd x Ag,fun x=>absurd x Ag⟩,rfl,rfl⟩
  .rw[b1 Aa];exact RN.a (aFl.zero _ _)
 .conv=>whnf
  repeat' first|((first|(show DrN _ _ _ _ _ _;refine DrN.own [_,_,_] Au Al ?_)|(refine⟨fun _=>⟨aF.o Am,by repeat first|exact bAd _|apply List.Sublist.cons_cons|refine List.Sublist.trans ?_ (bAe _ _)|apply List.Sublist.cons⟩,?_⟩)|((first|apply oI.z|apply cI.z))|(show LdN _ _ _ _ _;first|refine LdN.o 0 rfl rfl ?_|refine LdN.o 1 rfl rfl ?_|refine LdN.o 2 rfl rfl ?_|refine LdN.o 4 rfl rfl ?_|refine LdN.o 5 rfl rfl ?_|refine LdN.o 6 rfl rfl ?_)|(show aA0 _ _ _ _ _ _ _;refine aA0.at 1 rfl Ag ?_)|refine WN.i64 Aa Aa ?_|(show Sto _ _ _ _;first|refine Sto.l 4 rfl rfl rfl ?_|refine Sto.l 5 rfl rfl rfl ?_|refine Sto.l 6 rfl rfl rfl ?_))<;>conv=>whnf)|(show cnd _ _ _;first|((first|apply aB|apply aD)<;>intro _<;>first|(exfalso;omega)|conv=>whnf)|(refine aI ?_))
  .exact⟨rfl,1,Aa,2,rfl,Aa,rfl,⟨fun _=>p1 Ag,fun _=>by omega,fun x=>absurd x Ag⟩,rfl,rfl⟩
  .rw[b2 Aa];exact RN.a (aFl.zero _ _)
 .conv=>whnf
  repeat' first|((first|(show DrN _ _ _ _ _ _;refine DrN.own [_,_,_] Au Al ?_)|(refine⟨fun _=>⟨aF.o Am,by repeat first|exact bAd _|apply List.Sublist.cons_cons|refine List.Sublist.trans ?_ (bAe _ _)|apply List.Sublist.cons⟩,?_⟩)|((first|apply oI.z|apply cI.z))|(show LdN _ _ _ _ _;first|refine LdN.o 0 rfl rfl ?_|refine LdN.o 1 rfl rfl ?_|refine LdN.o 2 rfl rfl ?_|refine LdN.o 4 rfl rfl ?_|refine LdN.o 5 rfl rfl ?_|refine LdN.o 6 rfl rfl ?_)|(show aA0 _ _ _ _ _ _ _;refine aA0.at 2 rfl Ag ?_)|refine WN.i64 Aa Aa ?_|(show Sto _ _ _ _;first|refine Sto.l 4 rfl rfl rfl ?_|refine Sto.l 5 rfl rfl rfl ?_|refine Sto.l 6 rfl rfl rfl ?_))<;>conv=>whnf)|(show cnd _ _ _;first|((first|apply aB|apply aD)<;>intro _<;>first|(exfalso;omega)|conv=>whnf)|(refine aI ?_))
  .exact⟨rfl,0,Aa,3,rfl,Aa,rfl,⟨fun _=>p1 Ag,fun _=>p2 Ag,fun _=>by omega⟩,rfl,rfl⟩
  .rw[b3 Aa];exact RN.a (aFl.zero _ _)
 .conv=>whnf
  repeat' ((first|(show DrN _ _ _ _ _ _;refine DrN.own [_,_,_] (by exact List.Sublist.cons _ (List.Sublist.cons_cons _ (List.Sublist.cons_cons _ (List.Sublist.cons_cons _ (bAd _))))) Al ?_)|(refine⟨fun _=>⟨aF.o Am,by repeat first|exact bAd _|apply List.Sublist.cons_cons|refine List.Sublist.trans ?_ (bAe _ _)|apply List.Sublist.cons⟩,?_⟩)|((first|apply oI.z|apply cI.z))|(show LdN _ _ _ _ _;first|refine LdN.o 0 rfl rfl ?_|refine LdN.o 1 rfl rfl ?_|refine LdN.o 2 rfl rfl ?_|refine LdN.o 4 rfl rfl ?_|refine LdN.o 5 rfl rfl ?_|refine LdN.o 6 rfl rfl ?_)|(show Sto _ _ _ _;first|refine Sto.l 4 rfl rfl rfl ?_|refine Sto.l 5 rfl rfl rfl ?_|refine Sto.l 6 rfl rfl rfl ?_)|(apply aB<;>intro _<;>try (exfalso;omega)))<;>conv=>whnf)
  rw[b4 (p1 Ag) (p2 Ag) (p3 Ag)];exact RN.a ⟨_,_,_,rfl,⟨op7,ar7,ng7,nn7,dd7,nm7,ss7,rfl,Af⟩,⟨op8,ar8,ng8,nn8,dd8,nm8,ss8,rfl,Af⟩,⟨op9,ar9,ng9,nn9,dd9,nm9,ss9,rfl,Ab⟩⟩
end Go.Proofs.Y