/- The document's order of products; its sorting. -/
import Derived.Test.YtblecjeceecaaaaGreatDoorPF8
set_option linter.all false
set_option maxHeartbeats 4000000
set_option maxRecDepth 20000
namespace Go.Vc
open Go Go.Dig Go.Proofs.Y
structure MgI (A B M:List El) (i k:Nat):Prop where
 p:M.Perm (A.take i++B.take k)
 o:dV M
 s:∀x∈M,∀y∈A.drop i++B.drop k,leE x y
theorem MgI.nil(A B:List El):MgI A B [] 0 0:=⟨.refl _,List.Pairwise.nil,fun x hx=>by cases hx⟩
theorem xT{A:List El}{i:Nat}{x:El}(h:A[i]?=some x):A.drop i=x::A.drop (i+1):=by
 obtain⟨h1,h2⟩:=bIr.1 h;rw[bJo h1,h2]
theorem aKo{A:List El}(oA:dV A){i:Nat}{x:El}(h:A[i]?=some x):∀y∈A.drop (i+1),leE x y:=fun y hy=>by
 have:=oA.sublist (List.drop_sublist i A);rw[xT h] at this;exact (List.pairwise_cons.1 this).1 y hy
theorem MgI.left{A B M:List El}{i k:Nat}{x:El}(w:MgI A B M i k)(oA:dV A)(oB:dV B)(hx:A[i]?=some x)(hl:∀y,B[k]?=some y->leE x y):MgI A B (M++[x]) (i+1) k:=by
 have hxB:∀y∈B.drop k,leE x y:=fun y hy=>by
  cases hk:B[k]? with
  | none=>
   have:B.length<=k:=by simpa using hk
   rw[bK1 this] at hy;cases hy
  | some z=>
   rw[xT hk] at hy;rcases bI7.1 hy with rfl|hy
   .exact hl _ hk
   .exact xB (hl z hk) (aKo oB hk y hy)
 refine⟨?_,List.pairwise_append.2 ⟨w.o,by simp,fun a ha b hb=>?_⟩,fun a ha y hy=>?_⟩
 .rw[aY hx];refine (w.p.append_right [x]).trans ?_;rw[bIt,bIt];exact List.Perm.append_left _ bKy
 .rw[bI2] at hb;subst hb;exact w.s a ha b (by rw[xT hx];simp)
 .rcases bIx.1 ha with ha|ha
  .refine w.s a ha y ?_;rw[xT hx];rcases bIx.1 hy with hy|hy
   .exact bJh _ (bIz _ hy)
   .exact bJi _ hy
  .rw[bI2] at ha;subst ha;rcases bIx.1 hy with hy|hy
   .exact aKo oA hx y hy
   .exact hxB y hy
theorem MgI.swap{A B M:List El}{i k:Nat}(w:MgI A B M i k):MgI B A M k i:=
 ⟨w.p.trans bKy,w.o,fun x hx y hy=>w.s x hx y ((bIx.1 hy).elim (fun z=>bJi _ z) fun z=>bJh _ z)⟩
theorem bEk{a b:El}(h:jM a.m b.m<=0):leE a b:=fun hlt=>by
 rcases (Int.le_iff_lt_or_eq.1 h) with e|e
 .exact eI.irr _ (eI.tra (jT.1 e) hlt)
 .rw[lP.1 e] at hlt;exact eI.irr _ hlt
theorem bEl{a b:El}(h:0<jM a.m b.m):leE b a:=fun hlt=>by
 have:=jT.2 hlt;omega
theorem aPq(l:List El)(n:Nat)(hn:n<=l.length):(fl l).take (n*4)=fl (l.take n):=by
 conv=>lhs;rw[<-bI6 n l,aGx]
 rw[List.take_left' (by rw[bK,bI9];omega)]
theorem Rw.frontE{h:aA}{s:Sl}{l:List El}(w:Rw h s 4 (fl l))(n:Nat)(hn:n<=l.length):Rw h ⟨s.a,n,s.c⟩ 4 (fl (l.take n)):=by
 have hl:=w.len;rw[bK] at hl;refine⟨by rw[bK,bI9];show n*4=_;omega,by have:=w.cap;show n<=s.c;omega,fun hne=>?_⟩
 have hne':fl l≠[]:=fun e=>hne (by rw[<-aPq l n hn,e];simp)
 obtain⟨b,off,c,T,fz,h1,h2,h3⟩:=w.mem hne';refine⟨b,off,c,T,fz,h1,h2,fun i hi=>?_⟩
 rw[bK,bI9] at hi;rw[h3 i (by rw[bK];omega),<-aPq l n hn,bKn,if_pos Aa]
theorem kL.backE{h:aA}{s:Sl}{l:List El}{x y:Int}{k:Option Addr->Nat->Nat->Prop}(w:Rw h s 4 (fl l))(n:Nat)(hx:x=n)(hy:y=s.l)(hn:n<l.length)(hk:∀s':Sl,Rw h s' 4 (fl (l.drop n))->k s'.a s'.l s'.c):kL s.a x y s.c 4 k:=by
 have hl:=w.len;rw[bK] at hl;have hc:=w.cap;obtain⟨b,off,c,T,fz,h1,h2,h3⟩:=w.mem fun e=>by have:=bK l;rw[e] at this;simp at this;omega
 refine⟨n,s.l,some ⟨b,off+n*4,Option.none⟩,s.l-n,s.c-n,hx,hy,Aa,hc,by rw[if_neg Aa,h1];simp[bQ],rfl,rfl,hk ⟨some ⟨b,off+n*4,Option.none⟩,s.l-n,s.c-n⟩ ⟨by rw[bK,bJl];show (s.l-n)*4=_;omega,by show s.l-n<=s.c-n;omega,fun _=>⟨b,off+n*4,c,T,fz,rfl,h2,fun i hi=>?_⟩⟩⟩
 rw[bK,bJl] at hi;rw[bKd,h3 (n*4+i) (by rw[bK];omega)];have e:fl l=fl (l.take n)++fl (l.drop n):=by rw[<-aGx,bI6]
 rw[e,bJa (by rw[bK,bI9];omega),bK,bI9,show n*4+i-min n l.length*4=i by omega]
theorem aF.room{e:TypeId}{size b m:Nat}{z:List Value}{L:Vc.Own}(hz:z.length=size):aF e size (.slice (some ⟨b,0,Option.none⟩) 0 m) 0 [] ((b,.cells ((List.replicate m z).flatten).toArray e (0,0))::L):=
 ⟨by simp,.inr ⟨0,b,m,(List.replicate m z).flatten,rfl,rfl,bJe _,by simp[hz]⟩⟩
end Go.Vc
namespace Go.Proofs.Y
open Go Go.Vc Go.Dig
attribute [local irreducible] Vc.Fn FnP
theorem yX(h:aA)(s1 s2:Sl)(a b:Mon)(w1:Rw h s1 2 (fcs a))(w2:Rw h s2 2 (fcs b))(hb:a.length<=1099511627776)(hb2:b.length<=1099511627776):Fn0 T F.q80 [s1.val,s2.val] h fun v h'=>h'=h/\v=.int .i64 (jM a b):=by
 have hl1:s1.l=a.length:=by have:=w1.len;rw[cR] at this;omega
 have hl2:s2.l=b.length:=by have:=w2.len;rw[cR] at this;omega
 obtain⟨R,hR⟩:=AH (jM a b);rw[<-hR];refine f0C ok D.q80 rfl ?_;conv=>whnf
 repeat ((first|apply oI.z|apply cI.z);conv=>whnf)
 skip
 refine LpN.of (fun r ρ hx L=>∃j:Nat,r=a.length-j/\hx=h/\j<=a.length/\j<=b.length/\rd ρ 5=.int .i64 j/\R=jM (a.drop j) (b.drop j)) a.length
  ⟨0,rfl,rfl,bJe _,bJe _,rfl,hR⟩ ?_
 conv=>whnf
 repeat intro _
 rename_i r hx L2 hI;obtain⟨j,rfl,rfl,hj1,hj2,e5,hq⟩:=hI;conv at e5=>lhs;whnf
 subst e5;by_cases hja:j=a.length
 .rw[bK1 (by omega:a.length<=j)] at hq;by_cases hjb:j=b.length
  .rw[bK1 (by omega:b.length<=j)] at hq;conv=>whnf
   repeat' ((first|((first|apply oI.z|apply cI.z))|(apply aB<;>intro _<;>try (exfalso;omega)))<;>conv=>whnf)
   all_goals exact RN.a ⟨rfl,by rw[hq,aJf]⟩
  .rw[bJo (by omega:j<b.length)] at hq;conv=>whnf
   repeat' ((first|((first|apply oI.z|apply cI.z))|(apply aB<;>intro _<;>try (exfalso;omega)))<;>conv=>whnf)
   all_goals exact RN.a ⟨rfl,by rw[hq,aVd]⟩
 .obtain⟨t,ht⟩:∃t,a[j]?=some t:=⟨_,bIq Aa⟩
  have ht':=bIr.1 ht;rw[bJo (by omega:j<a.length),ht'.2] at hq;by_cases hjb:j=b.length
  .rw[bK1 (by omega:b.length<=j)] at hq;conv=>whnf
   repeat' ((first|((first|apply oI.z|apply cI.z))|(apply aB<;>intro _<;>try (exfalso;omega)))<;>conv=>whnf)
   all_goals exact RN.a ⟨rfl,by rw[hq,aVe]⟩
  .obtain⟨u,hu⟩:∃t,b[j]?=some t:=⟨_,bIq Aa⟩
   have hu':=bIr.1 hu;obtain⟨x,i⟩:=t;obtain⟨y,k⟩:=u;rw[bJo (by omega:j<b.length),hu'.2,aEj] at hq;conv=>whnf
   repeat' first|((first|(show Idx _ _ _ _ _;first|refine Idx.fac w1 j _ Aa ht (fun bk off k0 k1=>?_)|refine Idx.fac w2 j _ Aa hu (fun bk2 off2 k2 k3=>?_))|(show Ld _ _ _ _;first|refine Ld.of (k0 _) ?_|refine Ld.of (k2 _) ?_|refine Ld.of (k1 _) ?_|refine Ld.of (k3 _) ?_)|((first|apply oI.z|apply cI.z))|refine WN.i64 Aa Aa ?_|refine DrN.run Ak ?_)<;>conv=>whnf)|(show cnd _ _ _;first|(refine aGr (fun hlt=>?_) (fun hlt=>?_)<;>(conv=>whnf))|(refine aOz (fun hgt=>?_) (fun hgt=>?_)<;>(conv=>whnf))|(apply aB<;>intro _<;>first|(exfalso;omega)|conv=>whnf))
   all_goals first
    | exact⟨rfl,a.length-(j+1),Aa,j+1,rfl,rfl,Aa,Aa,vi Aa,by rw[hq,if_neg Ab,if_neg Ab,if_neg Aa,if_neg Aa]⟩
    | exact RN.a ⟨rfl,by rw[hq,if_pos Ab]⟩
    | exact RN.a ⟨rfl,by rw[hq,if_neg Ab,if_pos Ab]⟩
    | exact RN.a ⟨rfl,by rw[hq,if_neg Ab,if_neg Ab,if_pos Aa]⟩
    | exact RN.a ⟨rfl,by rw[hq,if_neg Ab,if_neg Ab,if_neg Aa,if_pos Aa]⟩
theorem aNi:∀(n:Nat) (h:aA) (s:Sl) (l:List El),l.length<=n->l.length<=100000->Rw h s 4 (fl l)->(∀x∈l,lQ h x)->
  Fn0 T F.q283 [s.val] h fun v h'=>∃(s':Sl) (l':List El),v=s'.val/\Rw h' s' 4 (fl l')/\l'.Perm l/\dV l':=by
 intro n
 induction n with
 | zero=>
  intro h s l hn hb w fw;have e:l=[]:=bJp.1 Aa;subst e;have hl:=w.len;have hl0:s.l=0:=by rw[bK] at hl;simp at hl;omega
  refine f0C ok D.q283 rfl ?_;conv=>whnf
  repeat' ((first|((first|apply oI.z|apply cI.z))|(apply aB<;>intro _<;>try (exfalso;omega)))<;>conv=>whnf)
  all_goals exact RN.a ⟨s,[],rfl,w,.refl _,List.Pairwise.nil⟩
 | succ n ih=>
  intro h s l hn hb w fw;have hl:=w.len;rw[bK] at hl;by_cases h2:l.length<2
  .refine f0C ok D.q283 rfl ?_;conv=>whnf
   repeat' ((first|((first|apply oI.z|apply cI.z))|(apply aB<;>intro _<;>try (exfalso;omega)))<;>conv=>whnf)
   all_goals exact RN.a ⟨s,l,rfl,w,.refl _,by
     match l,h2 with
     | [],_=>exact List.Pairwise.nil
     | [x],_=>simp
     | _::_::_,h2=>simp at h2;omega⟩
  .obtain⟨m,hm⟩:=AH (l.length / 2);have hm1:(l.take m).length=m:=by rw[bI9];omega
   have hm2:(l.drop m).length=l.length-m:=bJl;have c1:=fun h w fw=>ih h ⟨s.a,m,s.c⟩ (l.take m) Aa Aa w fw
   have wf1:=w.frontE m Aa;have c2:=fun h s' w fw=>ih h s' (l.drop m) Aa Aa w fw
   have f1:∀x∈l.take m,lQ h x:=fun x hx=>fw x (bJv hx)
   have f2:∀x∈l.drop m,lQ h x:=fun x hx=>fw x (bKg hx)
   have cap:=w.cap;refine f0C ok D.q283 rfl ?_;conv=>whnf
   repeat' ((first|(show eV _ _ _ _;refine eV.i64 Aa Aa Aa ?_)|(show kL _ _ _ _ _ _;first|refine kL.front (s:=s) m Aa Aa ?_|refine kL.backE (w.mono Ab) m Aa Aa Aa (fun s' w'=>?_))|(show CN _ _ _ _ _ _;first|(refine CN.f rfl (c1 _ wf1 f1) (fun v h' hl1 hr=>?_);obtain⟨sA,A,rfl,wA,pA,oA⟩:=hr)|(refine CN.f rfl (c2 _ _ (w'.mono Ad) (fun x hx=>(f2 x hx).mono Ab)) (fun v h2' hl2 hr=>?_);obtain⟨sB,B,rfl,wB,pB,oB⟩:=hr))|(show Mk _ _ _;first|refine Mk.of 0 rfl Ae Ae ?_|refine Mk.of s.l rfl Aa Aa ?_)|refine⟨bJe _,fun _=>?_⟩|((first|apply oI.z|apply cI.z))|(apply aB<;>intro _<;>try (exfalso;omega)))<;>conv=>whnf)
   refine LpN.of (fun r ρ hx L=>∃(i k:Nat) (M:List El) (v:Value),r=l.length-(i+k)/\h2'.le hx/\i<=A.length/\k<=B.length/\rd ρ 6=.int .i64 i/\rd ρ 7=.int .i64 k/\rd ρ 5=v/\aF Ty.ref04_term 4 v M.length (fl M) L/\Hq (MgI A B M i k)/\M.length=i+k) l.length
    ⟨0,0,[],_,rfl,aA.lr _,bJe _,bJe _,rfl,rfl,rfl,aF.room rfl,⟨MgI.nil A B⟩,rfl⟩ ?_
   have lA:A.length=m:=by rw[pA.length_eq,hm1]
   have lB:B.length=l.length-m:=by rw[pB.length_eq,hm2]
   have lsA:sA.l=A.length:=by have:=wA.len;rw[bK] at this;omega
   have lsB:sB.l=B.length:=by have:=wB.len;rw[bK] at this;omega
   have fA:∀x∈A,lQ h' x:=fun x hx=>(f1 x (pA.mem_iff.1 hx)).mono hl1
   have fB:∀x∈B,lQ h' x:=fun x hx=>(f2 x (pB.mem_iff.1 hx)).mono hl1
   have pL:(A++B).Perm l:=(pA.append pB).trans (by rw[bI6]);clear c1 c2 wf1 f1 f2 w;conv=>whnf
   repeat intro _
   rename_i r h3 L3 hI;obtain⟨i,k,M,v,rfl,hle,hi,hk,e6,e7,e5,g,⟨hM⟩,hMl⟩:=hI;conv at e5=>lhs;whnf
   subst e5;conv at e6=>lhs;whnf
   subst e6;conv at e7=>lhs;whnf
   subst e7;have wA3:=wA.mono (aA.lt hl2 hle);have wB3:=wB.mono hle;by_cases hend:i=A.length/\k=B.length
   .have hp:=hM.p;rw[hend.1,hend.2,bI4,bI4] at hp;conv=>whnf
    repeat' ((first|((first|apply oI.z|apply cI.z))|(apply aB<;>intro _<;>try (exfalso;omega)))<;>conv=>whnf)
    all_goals exact RN.growR (size:=4) Ae g fun h' s hl e w=>⟨s,M,e,w,hp.trans pL,hM.o⟩
   by_cases hkB:k=B.length
   .obtain⟨x,hx⟩:∃x,A[i]?=some x:=⟨_,bIq Aa⟩
    have hst:=hM.left oA oB hx (fun y hy=>by rw[hkB,bJn (bJf _)] at hy;cases hy)
    conv=>whnf
    repeat' first|((first|(show Idx _ _ _ _ _;refine Idx.el wA3 i x Aa hx (fun ab ao aw=>?_))|(show LdN _ _ _ _ _;(refine LdN.el4 aw Ad ?_))|(show App _ _ _ _ _ _ _ _ _;refine App.growK0 (A:=[_]) (F:=L3) (size:=4) (bytes:=80) (z:=[.bool false,.slice none 0 0,.slice none 0 0,.slice none 0 0]) rfl rfl g ⟨_,0,none⟩ 1 1 [_,_,_,_] rfl (Has.four _) rfl Ae Aa Aa Ae (fun v' F' g'=>?_))|((first|apply oI.z|apply cI.z))|intro (_:Nat)|refine WN.i64 Aa Aa ?_|refine DrN.run Ak ?_)<;>conv=>whnf)|(show cnd _ _ _;first|((first|apply aB|apply aD)<;>intro _<;>first|(exfalso;omega)|conv=>whnf))
    all_goals exact⟨rfl,l.length-(i+1+k),Aa,i+1,k,M++[x],_,rfl,hle,Aa,hk,vi Aa,rfl,rfl,by rw[bIo];exact (aF.el g').cons _,⟨hst⟩,by rw[bIo,bJm];omega⟩
   .obtain⟨y,hy⟩:∃x,B[k]?=some x:=⟨_,bIq Aa⟩
    by_cases hiA:i=A.length
    .have hst:=(hM.swap.left oB oA hy (fun y hy=>by rw[hiA,bJn (bJf _)] at hy;cases hy)).swap
     conv=>whnf
     repeat' first|((first|(show Idx _ _ _ _ _;refine Idx.el wB3 k y Aa hy (fun ab ao aw=>?_))|(show LdN _ _ _ _ _;(refine LdN.el4 aw Ad ?_))|(show App _ _ _ _ _ _ _ _ _;refine App.growK0 (A:=[_]) (F:=L3) (size:=4) (bytes:=80) (z:=[.bool false,.slice none 0 0,.slice none 0 0,.slice none 0 0]) rfl rfl g ⟨_,0,none⟩ 1 1 [_,_,_,_] rfl (Has.four _) rfl Ae Aa Aa Ae (fun v' F' g'=>?_))|((first|apply oI.z|apply cI.z))|intro (_:Nat)|refine WN.i64 Aa Aa ?_|refine DrN.run Ak ?_)<;>conv=>whnf)|(show cnd _ _ _;first|((first|apply aB|apply aD)<;>intro _<;>first|(exfalso;omega)|conv=>whnf))
     all_goals exact⟨rfl,l.length-(i+(k+1)),Aa,i,k+1,M++[y],_,rfl,hle,hi,Aa,rfl,vi Aa,rfl,by rw[bIo];exact (aF.el g').cons _,⟨hst⟩,by rw[bIo,bJm];omega⟩
    .obtain⟨x,hx⟩:∃x,A[i]?=some x:=⟨_,bIq Aa⟩
     have fx:=fA x (bIu hx);have fy:=fB y (bIu hy);have c3:=fun h w1 w2=>yX h x.f y.f x.m y.m w1 w2 fx.len fy.len
     have q1:jM x.m y.m<=0->MgI A B (M++[x]) (i+1) k:=fun e=>hM.left oA oB hx (fun z hz=>by rw[hy] at hz;cases hz;exact bEk e)
     have q2:0<jM x.m y.m->MgI A B (M++[y]) i (k+1):=fun e=>(hM.swap.left oB oA hy (fun z hz=>by rw[hx] at hz;cases hz;exact bEl e)).swap
     have rx:=fx.rw.mono (aA.lt hl2 hle);have ry:=fy.rw.mono (aA.lt hl2 hle);obtain⟨C,hC⟩:=AH (jM x.m y.m);rw[<-hC] at q1 q2 c3;conv=>whnf
     repeat' first|((first|(show Idx _ _ _ _ _;first|refine Idx.el wA3 i x Aa hx (fun ab ao aw=>?_)|refine Idx.el wB3 k y Aa hy (fun bb bo bw=>?_))|(show Ld _ _ _ _;first|(refine Ld.elf aw Ad ?_)|(refine Ld.elf bw Ad ?_))|(show CN _ _ _ _ _ _;refine CN.quiet rfl (c3 _ rx ry) ?_)|(show LdN _ _ _ _ _;first|(refine LdN.el4 aw Ad ?_)|(refine LdN.el4 bw Ad ?_))|(show App _ _ _ _ _ _ _ _ _;refine App.growK0 (A:=[_]) (F:=L3) (size:=4) (bytes:=80) (z:=[.bool false,.slice none 0 0,.slice none 0 0,.slice none 0 0]) rfl rfl g ⟨_,0,none⟩ 1 1 [_,_,_,_] rfl (Has.four _) rfl Ae Aa Aa Ae (fun v' F' g'=>?_))|((first|apply oI.z|apply cI.z))|refine⟨fun _=>aJ.o (aA.lr _),?_⟩|intro (_:Nat)|refine WN.i64 Aa Aa ?_|refine DrN.run Ak ?_)<;>conv=>whnf)|(show cnd _ _ _;first|((first|apply aB|apply bX|apply aD)<;>intro _<;>first|(exfalso;omega)|conv=>whnf))
     all_goals first
      | exact⟨rfl,l.length-(i+1+k),Aa,i+1,k,M++[x],_,rfl,hle,Aa,hk,vi Aa,rfl,rfl,by rw[bIo];exact (aF.el g').cons _,⟨q1 Aa⟩,by rw[bIo,bJm];omega⟩
      | exact⟨rfl,l.length-(i+(k+1)),Aa,i,k+1,M++[y],_,rfl,hle,hi,Aa,rfl,vi Aa,rfl,by rw[bIo];exact (aF.el g').cons _,⟨q2 Aa⟩,by rw[bIo,bJm];omega⟩
end Go.Proofs.Y
/- The document adds like terms up, and checks its limits. -/
namespace Go.Vc
open Go Go.Dig
def aXk(G:List (Mon × Rat))(m:Mon):Prop:=∀u,G.getLast?=some u->u.1≠m
theorem bEm{G:List (Mon × Rat)}{t:Mon × Rat}(h:aXk G t.1):grS G t=G++[t]:=by
 rcases bL1 G with rfl|⟨o,u,rfl⟩
 .rfl
 .rw[bM0] at *;rw[aHl,if_neg (h u (by rw[bM5]))]
theorem aKp(G:List (Mon × Rat))(m:Mon)(q:Rat):(G++[(m,q)]).filter (fun t=>!decide (t.2=0))=G.filter (fun t=>!decide (t.2=0))++(if q=0 then [] else [(m,q)]):=by
 rw[bLj]
 congr 1
 by_cases h:q=0
 .rw[if_pos h];simp[h]
 .rw[if_neg h];simp[h]
theorem aXl{G:List (Mon × Rat)}{m m':Mon}{q:Rat}(h:m≠m'):aXk (G++[(m,q)]) m':=fun u hu=>by
 rw[bM5] at hu;cases hu;exact h
end Go.Vc
namespace Go.Proofs.Y
open Go Go.Vc Go.Dig
theorem aE6{l:List El}{i:Nat}{x:El}(h:l[i]?=some x):((l.take (i+1)).map pq).foldl grS []=grS (((l.take i).map pq).foldl grS []) (pq x):=by
 rw[aY h,bI3,bNi];rfl
theorem QmW.mono{h h':aA}{x:El}(w:QmW h x)(hl:h.le h'):QmW h' x:=⟨w.q.mono hl,w.sg,w.fac.mono hl⟩
theorem Sr.addS{k l:Nat}{q r:Rat}(a:Sr k q)(b:Sr l r):Sr (k+l+1) (q+r):=by
 have h:=aLq q r;have p1:=cX tlb (nu q) r.den;have p2:=cX tlb (nu r) q.den;have p3:=cX tlb q.den r.den;have p4:=uZ tlb (nu q*r.den) (nu r*q.den);have a1:=a.num;have a2:=a.den;have b1:=b.num;have b2:=b.den;exact⟨bJd (cQ tlb h.1) Aa,bJd (cQ tlb h.2) Aa⟩
theorem Sr.mulS{k l:Nat}{q r:Rat}(a:Sr k q)(b:Sr l r):Sr (k+l) (q*r):=by
 have h:=aLr q r;have p1:=cX tlb (nu q) (nu r);have p3:=cX tlb q.den r.den;have a1:=a.num;have a2:=a.den;have b1:=b.num;have b2:=b.den;exact⟨bJd (cQ tlb h.1) Aa,bJd (cQ tlb h.2) Aa⟩
attribute [local irreducible] Vc.Fn FnP
structure QmS (h:aA) (x:El):Prop where
 m:QmW h x
 z:Sr 10600000 x.q
instance:UpE QmS:=⟨fun hl w=>⟨UpE.up hl w.m,w.z⟩⟩
abbrev bIn (h:aA) (s:Sl) (p:Pol):Prop:=gJ QmW h s p
theorem aC1(h:aA)(s:Sl)(l:List El)(w:Rw h s 4 (fl l))(hb:l.length<=40400)(fw:∀x∈l,QmW h x/\Sr 260 x.q):
  Fn0 T F.q220 [s.val] h fun v h'=>∃s',v=Sl.val s'/\gJ QmS h' s' (bZ (l.map pq)):=by
 have c1:=aNi l.length h s l (bJf _) Aa w fun x hx=>(fw x hx).1.fac
 refine f0C ok D.q220 rfl ?_;conv=>whnf
 repeat' ((first|(show CN _ _ _ _ _ _;(refine CN.f rfl c1 (fun v h' hl hr=>?_);obtain⟨s2,l',rfl,w',p1,o1⟩:=hr))|((first|apply oI.z|apply cI.z)))<;>conv=>whnf)
 have hr1:(((l'.map pq).foldl grS []).filter fun t=>!decide (t.2=0))=bZ (l.map pq):=aOw (p1.map pq) (aW6 o1)
 have fw':∀x∈l',QmW h' x/\Sr 260 x.q:=fun x hx=>⟨UpE.up hl (fw x (p1.mem_iff.1 hx)).1,(fw x (p1.mem_iff.1 hx)).2⟩
 have hN:=p1.length_eq;have hls:s2.l=l'.length:=by have:=w'.len;rw[bK] at this;omega
 clear c1 o1 p1 fw w hl;refine LpN.of (fun r ρ hx L=>∃(i:Nat) (G:Pol) (out:List El) (v:Value),r=l'.length-i/\h'.le hx/\i<=l'.length/\rd ρ 4=.int .i64 i/\rd ρ 3=v/\aF Ty.ref04_term 4 v out.length (fl out) L/\out.length<=i/\Hq (G=((l'.take i).map pq).foldl grS [])/\Hq (out.map pq=G.filter fun t=>!decide (t.2=0))/\Hq (∀x,l'[i]?=some x->aXk G x.m)/\Hq (∀x∈out,QmS hx x)) l'.length
  ⟨0,[],[],_,rfl,aA.lr _,bJe _,rfl,rfl,aF.nil _ _ _,bJf _,⟨rfl⟩,⟨rfl⟩,⟨fun x hx u hu=>by cases hu⟩,⟨fun x hx=>by cases hx⟩⟩ ?_
 conv=>whnf
 repeat intro _
 rename_i r2 h2 L2 hI;obtain⟨i,G,out,v,rfl,hle,hi,e4,e3,g,ho,⟨hG⟩,⟨hout⟩,⟨hoff⟩,⟨hw⟩⟩:=hI;conv at e3=>lhs;whnf
 subst e3;conv at e4=>lhs;whnf
 subst e4;have w2:=w'.mono hle;by_cases hiN:i=l'.length
 .have hfin:out.map pq=bZ (l.map pq):=by rw[hout,hG,<-hr1,hiN,bI4]
  conv=>whnf
  repeat' ((first|((first|apply oI.z|apply cI.z))|(apply aB<;>intro _<;>try (exfalso;omega)))<;>conv=>whnf)
  refine RN.growE (K:=QmS) g hw fun h' s hl e w=>⟨s,e,by rw[<-hfin];exact w⟩
 .obtain⟨x,hx⟩:∃t,l'[i]?=some t:=⟨_,bIq Aa⟩
  have hxw:=fw' x (bIu hx);have hG1:((l'.take (i+1)).map pq).foldl grS []=G++[(x.m,x.q)]:=by rw[aE6 hx,<-hG,bEm (hoff x hx)];rfl
  have hxq:=hxw.1.mono hle;obtain⟨xn,xa,xd,xf,xm,xq⟩:=x;obtain rfl:xn=sg xq:=hxw.1.sg;dsimp only at hG1;conv=>whnf
  repeat' ((first|(show Idx _ _ _ _ _;refine Idx.el w2 i _ Aa hx (fun ab ao aw=>?_))|(show LdN _ _ _ _ _;(refine LdN.el4 aw Ad ?_))|((first|apply oI.z|apply cI.z))|intro (_:Nat)|refine WN.i64 Aa Aa ?_|refine Sto.l 0 rfl rfl rfl ?_|(apply aB<;>intro _<;>try (exfalso;omega)))<;>conv=>whnf)
  rename_i bt;refine LpN.of (fun r ρ hx L=>∃(j:Nat) (q:Rat) (a d:Sl),r=l'.length-j/\h2.le hx/\i<j/\j<=l'.length/\rd ρ 4=.int .i64 j/\L=(bt,.cells [.bool (sg q),a.val,d.val,xf.val].toArray 131 (0,0))::L2/\IsQ hx a d q/\Sr (262*j) q/\Hq (((l'.take j).map pq).foldl grS []=G++[(xm,q)])) (l'.length-(i+1))
   ⟨i+1,xq,xa,xd,rfl,aA.lr _,Aa,Aa,vi Aa,rfl,hxq.q,hxw.2.mono Aa,⟨hG1⟩⟩ ?_
  conv=>whnf
  repeat intro _
  rename_i q3 h3 L3 hI3;obtain⟨j,q,qa,qd,rfl,hle3,hij,hj,e4,rfl,wq,zq,⟨hG2⟩⟩:=hI3;conv at e4=>lhs;whnf
  subst e4;have w3:=w2.mono hle3;have c6:=fun h w=>aBl h qa qd q w (zq.mono Aa)
  obtain⟨z,hz⟩:=AH (dH q);rw[<-hz] at c6;have hfil:=aKp G xm q;have xfw:=hxq.fac.rw.mono hle3;have xfl:=hxq.fac.len;by_cases hjN:j=l'.length
  .have hoff2:∀x,l'[j]?=some x->aXk (G++[(xm,q)]) x.m:=fun x hx=>by rw[hjN,bJn (bJf _)] at hx;cases hx
   by_cases hq0:q=0
   .have hz0:z=0:=hz.trans (eL.2 (cE.2 hq0));rw[if_pos hq0,bIy] at hfil;conv=>whnf
    repeat' first|((first|(show LdN _ _ _ _ _;refine LdN.oA 0 rfl rfl ?_)|(show CN _ _ _ _ _ _;(refine CN.quiet rfl (c6 _ (wq.mono Ad)) ?_))|((first|apply oI.z|apply cI.z))|refine DrN.run Ak ?_)<;>conv=>whnf)|(show cnd _ _ _;first|((first|apply aB|apply aD)<;>intro _<;>first|(exfalso;omega)|conv=>whnf)|(refine aI ?_))
    exact⟨rfl,l'.length-j,Aa,j,G++[(xm,q)],out,_,rfl,Ac,Aa,rfl,rfl,g.cons _,Aa,⟨hG2.symm⟩,⟨by rw[hfil,hout]⟩,⟨hoff2⟩,⟨fun x hx=>UpE.up Ab (hw x hx)⟩⟩
   .have hz0:z≠0:=fun e=>hq0 (cE.1 (eL.1 (hz.symm.trans e)))
    rw[if_neg hq0] at hfil;conv=>whnf
    repeat' first|((first|(show LdN _ _ _ _ _;refine LdN.oA 0 rfl rfl ?_)|(show CN _ _ _ _ _ _;(refine CN.quiet rfl (c6 _ (wq.mono Ad)) ?_))|((first|apply oI.z|apply cI.z))|intro (_:Nat)|refine DrN.run Ak ?_)<;>conv=>whnf)|(show cnd _ _ _;first|((first|apply aB|apply aD)<;>intro _<;>first|(exfalso;omega)|conv=>whnf)|(refine aI ?_))
    refine App.growM (A:=[_,_]) (Fx:=L2) (size:=4) (bytes:=80) (z:=[.bool false,.slice none 0 0,.slice none 0 0,.slice none 0 0]) rfl rfl g ⟨_,0,none⟩ 1 1 [_,_,_,_] rfl (Has.four _) rfl Ae Aa Aa Ae (fun v' F' g' hA=>?_);conv=>whnf
    exact⟨rfl,l'.length-j,Aa,j,G++[(xm,q)],out++[⟨sg q,qa,qd,xf,xm,q⟩],v',rfl,Ac,Aa,rfl,rfl,by rw[bIo];exact aF.el (x:=⟨sg q,qa,qd,xf,xm,q⟩) g',by rw[bIo];show _+1<=j;omega,⟨hG2.symm⟩,⟨by rw[hfil,bI3,hout];rfl⟩,⟨hoff2⟩,⟨fun x hx=>by
      rcases bIx.1 hx with hx|hx
      .exact UpE.up Ab (hw x hx)
      .rw[bI2] at hx;subst hx;exact⟨⟨wq.mono Ad,rfl,⟨hxq.fac.rw.mono Ab,hxq.fac.len⟩⟩,zq.mono Aa⟩⟩⟩
  .obtain⟨y,hy⟩:∃t,l'[j]?=some t:=⟨_,bIq Aa⟩
   have hyw:=fw' y (bIu hy);have hyq:=(hyw.1.mono hle).mono hle3;have hsn:=aE6 hy;rw[hG2,aHl] at hsn;obtain⟨yn,ya,yd,yf,ym,yq⟩:=y;obtain rfl:yn=sg yq:=hyw.1.sg;dsimp only[pq] at hsn;have yfl:=hyw.1.fac.len;have yfw:=hyq.fac.rw;have c2:=fun h w w'=>yX h yf xf ym xm w w' yfl xfl
   obtain⟨A,hA⟩:=AH (jM ym xm);rw[<-hA] at c2;by_cases hyx:ym=xm
   .have hA0:A=0:=hA.trans (lP.2 hyx);replace hsn:=hsn.trans (if_pos hyx.symm);have hyw2:=hyw.2;have c7:=fun h w w'=>aF9 h qa qd ya yd q yq w w' (zq.mono Aa) (hyw2.mono Ae)
    have yq':=hyq.q;conv=>whnf
    repeat' first|((first|(show Idx _ _ _ _ _;refine Idx.el w3 j _ Aa hy (fun ab ao aw=>?_))|(show LdN _ _ _ _ _;first|(refine LdN.elq aw Ad ?_)|refine LdN.oA 0 rfl rfl ?_)|(show Ld _ _ _ _;first|(refine Ld.elf aw Ad ?_)|refine Ld.o 0 rfl rfl ?_)|(show CN _ _ _ _ _ _;first|(refine CN.quiet rfl (c2 _ (yfw.mono Ad) (xfw.mono Ad)) ?_)|(refine CN.f rfl (c7 _ (wq.mono Ad) (yq'.mono Ad)) (fun v h' hl hr=>?_);obtain⟨m1,m2,rfl,hm⟩:=hr))|((first|apply oI.z|apply cI.z))|refine⟨fun _=>aJ.o (aA.lr _),?_⟩|refine⟨fun _=>aJ.o Ab,?_⟩|refine⟨fun hst=>(by cases (show true=false from hst)),?_⟩|refine WN.i64 Aa Aa ?_|refine Sto.l 0 rfl rfl rfl ?_|refine DrN.run Ak ?_)<;>conv=>whnf)|(show cnd _ _ _;first|((first|apply aB|apply aD)<;>intro _<;>first|(exfalso;omega)|conv=>whnf))
    exact⟨rfl,l'.length-(j+1),Aa,j+1,q+yq,m1,m2,rfl,Ac,Aa,Aa,vi Aa,rfl,hm.mono Ad,(zq.addS hyw2).mono Aa,⟨hsn⟩⟩
   .have hA0:A≠0:=fun e=>hyx (lP.1 (hA.symm.trans e))
    have hoff2:∀x,l'[j]?=some x->aXk (G++[(xm,q)]) x.m:=fun x hx=>by rw[hy] at hx;cases hx;exact aXl (fun e=>hyx e.symm)
    by_cases hq0:q=0
    .have hz0:z=0:=hz.trans (eL.2 (cE.2 hq0));rw[if_pos hq0,bIy] at hfil;conv=>whnf
     repeat' first|((first|(show Idx _ _ _ _ _;refine Idx.el w3 j _ Aa hy (fun ab ao aw=>?_))|(show Ld _ _ _ _;first|(refine Ld.elf aw Ad ?_)|refine Ld.o 0 rfl rfl ?_)|(show CN _ _ _ _ _ _;first|(refine CN.quiet rfl (c2 _ (yfw.mono Ad) (xfw.mono Ad)) ?_)|(refine CN.quiet rfl (c6 _ (wq.mono Ad)) ?_))|(show LdN _ _ _ _ _;refine LdN.oA 0 rfl rfl ?_)|((first|apply oI.z|apply cI.z))|refine⟨fun _=>aJ.o (aA.lr _),?_⟩|refine DrN.run Ak ?_)<;>conv=>whnf)|(show cnd _ _ _;first|((first|apply aB|apply aD)<;>intro _<;>first|(exfalso;omega)|conv=>whnf)|(refine aI ?_))
     exact⟨rfl,l'.length-j,Aa,j,G++[(xm,q)],out,_,rfl,Ac,Aa,rfl,rfl,g.cons _,Aa,⟨hG2.symm⟩,⟨by rw[hfil,hout]⟩,⟨hoff2⟩,⟨fun x hx=>UpE.up Ab (hw x hx)⟩⟩
    .have hz0:z≠0:=fun e=>hq0 (cE.1 (eL.1 (hz.symm.trans e)))
     rw[if_neg hq0] at hfil;conv=>whnf
     repeat' first|((first|(show Idx _ _ _ _ _;refine Idx.el w3 j _ Aa hy (fun ab ao aw=>?_))|(show Ld _ _ _ _;first|(refine Ld.elf aw Ad ?_)|refine Ld.o 0 rfl rfl ?_)|(show CN _ _ _ _ _ _;first|(refine CN.quiet rfl (c2 _ (yfw.mono Ad) (xfw.mono Ad)) ?_)|(refine CN.quiet rfl (c6 _ (wq.mono Ad)) ?_))|(show LdN _ _ _ _ _;refine LdN.oA 0 rfl rfl ?_)|((first|apply oI.z|apply cI.z))|refine⟨fun _=>aJ.o (aA.lr _),?_⟩|intro (_:Nat)|refine DrN.run Ak ?_)<;>conv=>whnf)|(show cnd _ _ _;first|((first|apply aB|apply aD)<;>intro _<;>first|(exfalso;omega)|conv=>whnf)|(refine aI ?_))
     refine App.growM (A:=[_,_]) (Fx:=L2) (size:=4) (bytes:=80) (z:=[.bool false,.slice none 0 0,.slice none 0 0,.slice none 0 0]) rfl rfl g ⟨_,0,none⟩ 1 1 [_,_,_,_] rfl (Has.four _) rfl Ae Aa Aa Ae (fun v' F' g' hA=>?_);conv=>whnf
     exact⟨rfl,l'.length-j,Aa,j,G++[(xm,q)],out++[⟨sg q,qa,qd,xf,xm,q⟩],v',rfl,Ac,Aa,rfl,rfl,by rw[bIo];exact aF.el (x:=⟨sg q,qa,qd,xf,xm,q⟩) g',by rw[bIo];show _+1<=j;omega,⟨hG2.symm⟩,⟨by rw[hfil,bI3,hout];rfl⟩,⟨hoff2⟩,⟨fun x hx=>by
       rcases bIx.1 hx with hx|hx
       .exact UpE.up Ab (hw x hx)
       .rw[bI2] at hx;subst hx;exact⟨⟨wq.mono Ad,rfl,⟨hxq.fac.rw.mono Ab,hxq.fac.len⟩⟩,zq.mono Aa⟩⟩⟩
end Go.Proofs.Y
/- Products of factors, as the document forms them. -/
namespace Go.Vc
open Go Go.Dig
theorem CN.growR{T:Tab}{e:TypeId}{size:Nat}{v:Value}{n:Nat}{xs:List Value}{f:FuncId}{h:aA}{L:Vc.Own}{k:Value->aA->Vc.Own->Prop}(hs:0<size)(g:aF e size v n xs L)(hf:T.fn f=true)
  (hk:∀h' (s:Sl) L',h.le h'->v=s.val->Rw h' s size xs->CN T f [s.val] h' L' k):CN T f [v] h L k:=by
 obtain⟨g1,⟨rfl,rfl⟩|⟨i,b,cap,zs,rfl,h2,h3,h4⟩⟩:=g
 .obtain rfl:xs=[]:=by simpa using g1
  exact hk h ⟨none,0,0⟩ L (aA.lr _) rfl ⟨by simp,bJf _,fun x=>(x rfl).elim⟩
 .refine CN.keep i h2 hf fun hle=>hk _ ⟨some ⟨b,0,none⟩,n,cap⟩ _ hle rfl ⟨g1.symm,h3,fun _=>⟨b,0,(xs++zs).toArray,e,(0,0),rfl,by simp[aA.put],fun j hj=>by
    rw[bJc,bJj,bI0 hj]⟩⟩
theorem qK{a:Mon}{i:Nat}{t:Fac}(h:a[i]?=some t):a.drop i=t::a.drop (i+1):=by
 obtain⟨h1,h2⟩:=bIr.1 h;rw[bJo h1,h2]
theorem Idx.facM{h:aA}{s:Sl}{m:Mon}(w:Rw h s 2 (fcs m)){i:Int}{k:Addr->Prop}(j:Nat)(t:Fac)(hi:i=j)(ht:m[j]?=some t)
  (hk:∀b off,(∀h' L,h.le h'->Has h' L ⟨b,off,none⟩ (.string ⟨t.1.toArray⟩))->(∀h' L,h.le h'->Has h' L ⟨b,off+1,none⟩ (.int .i64 (t.2:Nat)))->k ⟨b,off,none⟩):Idx s.a i s.l 2 k:=by
 have hj:=(bIr.1 ht).1;have hl:=cR m;have hne:fcs m≠[]:=fun e=>by rw[e] at hl;simp at hl;omega
 obtain⟨b,off,c,T,fz,h1,h2,h3⟩:=w.mem hne;have hlen:=w.len;have get:∀n,n<2->∀h' L,h.le h'->Has h' L ⟨b,off+j*2+n,none⟩ ((fcv t).getD n undef):=fun n hn h' L hle=>by
  refine Has.imm (hle _ _ h2) ?_;rw[bKd,h3 _ Aa,aAo ht n hn]
  match n,hn with
  | 0,_=>rfl
  | 1,_=>rfl
 exact Idx.of j h1 hi Aa (hk _ _ (get 0 Ae) (get 1 Ae))
theorem bGp(l:Mon):cnM l=cnL l l:=rfl
end Go.Vc
namespace Go.Proofs.Y
open Go Go.Vc Go.Dig
theorem bEn(h:aA)(x:List UInt8):Fn0 T F.q24 [.string ⟨x.toArray⟩] h fun v h'=>v=.bool (dec (nmA x)):=by
 rw[uG];exact oN h _ (aXd x)
attribute [local irreducible] Vc.Fn FnP
theorem aDj(h:aA)(s:Sl)(l:Mon)(w:Rw h s 2 (fcs l))(hs:kN l)(hl:l.length<=1000000)(he:∀t∈l,t.2<=100000/\t.1.length<=100000):
  Fn0 T F.q284 [s.val] h fun v h'=>∃s':Sl,v=s'.val/\Rw h' s' 2 (fcs (cnM l)):=by
 have hls:s.l=l.length:=by have:=w.len;rw[cR] at this;omega
 refine f0C ok D.q284 rfl ?_;conv=>whnf
 repeat ((first|apply oI.z|apply cI.z);conv=>whnf)
 skip
 refine LpN.of (fun r ρ hx L=>∃(i:Nat) (v:Value) (out:Mon),r=l.length-i/\h.le hx/\i<=l.length/\rd ρ 4=.int .i64 i/\rd ρ 3=v/\aF Ty.api_Factor 2 v out.length (fcs out) L/\out.length<=i/\Hq (out=cnL l (l.take i))) l.length
  ⟨0,_,[],rfl,aA.lr _,bJe _,rfl,rfl,aF.nil _ _ _,bJf _,⟨rfl⟩⟩ ?_
 conv=>whnf
 repeat intro _
 rename_i r h1 L1 hI;obtain⟨i,v,out,rfl,hle,hi,e4,e3,g,ho,⟨hq⟩⟩:=hI;conv at e3=>lhs;whnf
 subst e3;conv at e4=>lhs;whnf
 subst e4;have w1:=w.mono hle;by_cases hil:i=l.length
 .rw[hil,bI4] at hq;conv=>whnf
  repeat' ((first|((first|apply oI.z|apply cI.z))|(apply aB<;>intro _<;>try (exfalso;omega)))<;>conv=>whnf)
  refine RN.growR (size:=2) Ae g fun h' s hl e w=>⟨s,e,?_⟩
  rw[bGp,<-hq];exact w
 .obtain⟨t,ht⟩:∃t,l[i]?=some t:=⟨_,bIq Aa⟩
  have hte:=he t (bIu ht);have hsn:=aY ht;have hcn:=aCv l (l.take i) t;rw[<-hsn,<-hq] at hcn;obtain⟨x,e⟩:=t;dsimp only at hte;conv=>whnf
  repeat' ((first|(apply bJ.go)|(show Idx _ _ _ _ _;refine Idx.fac w1 i _ Aa ht (fun bk off k0 k1=>?_))|(show Ld _ _ _ _;refine Ld.of (k1 _) ?_)|((first|apply oI.z|apply cI.z))|(apply aB<;>intro _<;>try (exfalso;omega)))<;>conv=>whnf)
  refine LpN.of (fun r ρ hx L=>∃(k m:Nat),r=l.length-k/\h1.le hx/\L=L1/\k<=l.length/\rd ρ 6=.int .i64 k/\rd ρ 5=.int .i64 m/\m<=e/\Hq (m=e-min e (rv (l.take k) x))) l.length
   ⟨0,e,rfl,aA.lr _,rfl,bJe _,rfl,rfl,bJf _,⟨by
     have:rv (l.take 0) x=0:=by rw[bKq];unfold rv;cases inv x<;>rfl
     rw[this];omega⟩⟩ ?_
  conv=>whnf
  repeat intro _
  rename_i r2 h2 L2 hI;obtain⟨k,m,rfl,hle2,rfl,hk,e6,e5,hme,⟨hm⟩⟩:=hI;conv at e5=>lhs;whnf
  subst e5;conv at e6=>lhs;whnf
  subst e6;have w2:=w1.mono hle2;by_cases hkl:k=l.length
  .rw[hkl,bI4] at hm;have hm':m=cnF l (x,e):=hm;rw[<-hm'] at hcn;conv=>whnf
   repeat' ((first|(show Idx _ _ _ _ _;refine Idx.fac w2 i _ Aa ht (fun bk off k0 k1=>?_))|(show Ld _ _ _ _;refine Ld.of (k0 _) ?_)|(show App _ _ _ _ _ _ _ _ _;refine App.growK0 (A:=[_]) (F:=L2) (size:=2) (bytes:=24) (z:=[.string ByteArray.empty,.int .i64 0]) rfl rfl g ⟨_,0,none⟩ 1 1 [_,_] rfl (Has.twoC _) rfl Ae Aa Aa Ae (fun v' F' g'=>?_))|((first|apply oI.z|apply cI.z))|intro (_:Nat)|refine WN.i64 Aa Aa ?_|(apply aB<;>intro _<;>try (exfalso;omega)))<;>conv=>whnf)
   .rw[if_neg Aa] at hcn;exact⟨rfl,l.length-(i+1),Aa,i+1,_,out++[(x,m)],rfl,Ac,Aa,vi Aa,rfl,by rw[bIo];exact (aF.fac m g' rfl).cons _,by rw[bIo,bJm];omega,⟨by rw[hcn]⟩⟩
   .rw[if_pos Aa,bIy] at hcn;exact⟨rfl,l.length-(i+1),Aa,i+1,_,out,rfl,Ac,Aa,vi Aa,rfl,g,Aa,⟨by rw[hcn]⟩⟩
  .obtain⟨u,hu⟩:∃t,l[k]?=some t:=⟨_,bIq Aa⟩
   have hue:=he u (bIu hu);have ht1:=bAn hs (s:=x) hu;have ho1:=bAo hs (s:=x) hu;have hiv:=@aAm x u.1;obtain⟨y,f⟩:=u;dsimp only at hue ht1 ho1 hiv;have cY:inv x=some y->m-min e f=e-min e (rv (l.take (k+1)) x):=fun hh=>by
    rw[ht1,if_pos hh,ho1 hh] ;rw[ho1 hh] at hm;omega
   have cN:inv x≠some y->m=e-min e (rv (l.take (k+1)) x):=fun hh=>by
    rw[ht1,if_neg hh,bJz];exact hm
   have cM:inv x=some y->m=e:=fun hh=>by rw[ho1 hh] at hm;omega
   have cn1:=bEn;have hxl:x.length<=1000000:=Aa;have hyl:y.length<=1000000:=Aa;have hmm:=aF4 e f;conv=>whnf
   repeat' first|((first|(apply bJ.go)|(show WN _ _ _;first|(show WN IntKind.i64 ((m:Int)-mm false (e:Int) (f:Int)) _;rw[hmm];refine WN.i64 Aa Aa ?_)|refine WN.i64 Aa Aa ?_)|(show Idx _ _ _ _ _;first|refine Idx.facM w2 i _ Aa ht (fun bk off k0 k1=>?_)|refine Idx.facM w2 k _ Aa hu (fun bk off m0 m1=>?_))|(show Ld _ _ _ _;first|(refine Ld.of (k0 _ _ Av) ?_)|(refine Ld.of (m0 _ _ Ac) ?_)|(refine Ld.of (k1 _ _ Ac) ?_)|(refine Ld.of (m1 _ _ Ac) ?_))|(show CN _ _ _ _ _ _;(refine CN.f rfl (cn1 _ _) (fun v h' hl hr=>?_);subst hr))|(show Cat _ _ _;first|refine Cat.four rfl hxl ?_|refine Cat.four rfl hyl ?_)|((first|apply oI.z|apply cI.z))|refine⟨fun _=>aJ.o Ab,?_⟩|refine DrN.run Ak ?_)<;>conv=>whnf)|(show cnd _ _ _;first|(refine aMp (x:=y) (y:=eR++x) (fun h4=>?_) (fun h4=>?_)<;>(conv=>whnf))|(refine aMp (x:=x) (y:=eR++y) (fun h5=>?_) (fun h5=>?_)<;>(conv=>whnf))|((first|apply aB|apply aU)<;>intro _<;>first|(exfalso;omega)|conv=>whnf))
   all_goals first
    | (have hh:=hiv.2 (.inl ⟨Ab,Ab⟩)
       have hme':=cM hh;exact⟨rfl,l.length-(k+1),Aa,k+1,m-min e f,rfl,Ac,rfl,Aa,vi Aa,vi Aa,Aa,⟨cY hh⟩⟩)
    | (have hh:=hiv.2 (.inr ⟨Ab,Ab⟩)
       have hme':=cM hh;exact⟨rfl,l.length-(k+1),Aa,k+1,m-min e f,rfl,Ac,rfl,Aa,vi Aa,vi Aa,Aa,⟨cY hh⟩⟩)
    | exact⟨rfl,l.length-(k+1),Aa,k+1,m,rfl,Ac,rfl,Aa,vi Aa,rfl,hme,⟨cN fun hh=>by
        rcases hiv.1 hh with ⟨a,b⟩|⟨a,b⟩
        all_goals first|exact absurd a Ab|exact absurd b Ab⟩⟩
end Go.Proofs.Y
/- Products of factors joined, as the document forms them. -/
namespace Go.Vc
open Go Go.Dig
theorem aPr(M K:Nat):∀(n:Nat) (a b:Mon),a.length+b.length<=n->(∀t∈a,t.2<=M/\t.1.length<=K)->(∀t∈b,t.2<=M/\t.1.length<=K)->∀t∈mgM a b,t.2<=M+M/\t.1.length<=K
 | n,[],b,_,_,hb=>by rw[yQ];exact fun t ht=>⟨by have:=(hb t ht).1;omega,(hb t ht).2⟩
 | n,t::a,[],_,ha,_=>by rw[wY];exact fun t ht=>⟨by have:=(ha t ht).1;omega,(ha t ht).2⟩
 | 0,_::_,_::_,h,_,_=>by simp at h
 | n+1,(x,i)::a,(y,j)::b,hn,ha,hb=>by
  simp only[bIs] at hn;have hx:=ha (x,i) (bIw ..);have hy:=hb (y,j) (bIw ..);dsimp only at hx hy;have ha':∀t∈a,t.2<=M/\t.1.length<=K:=fun t ht=>ha t (bIz _ ht)
  have hb':∀t∈b,t.2<=M/\t.1.length<=K:=fun t ht=>hb t (bIz _ ht)
  have h1:=aPr M K n a ((y,j)::b) AF ha' hb;have h2:=aPr M K n ((x,i)::a) b AF ha hb';have h3:=aPr M K n a b Aa ha' hb';rw[aAn];intro t ht
  split at ht
  .rcases bI7.1 ht with rfl|ht
   .dsimp only;omega
   .exact h1 t ht
  .split at ht
   .rcases bI7.1 ht with rfl|ht
    .dsimp only;omega
    .exact h2 t ht
   .rcases bI7.1 ht with rfl|ht
    .dsimp only;omega
    .exact h3 t ht
end Go.Vc
namespace Go.Proofs.Y
open Go Go.Vc Go.Dig
attribute [local irreducible] Vc.Fn FnP
theorem aNj(h:aA)(s1 s2:Sl)(a b:Mon)(w1:Rw h s1 2 (fcs a))(w2:Rw h s2 2 (fcs b))(ha:kN a)(hb:kN b)(hl:a.length+b.length<=1000000)(ea:∀t∈a,t.2<=1000/\t.1.length<=4000)(eb:∀t∈b,t.2<=1000/\t.1.length<=4000):
  Fn0 T F.q223 [s1.val,s2.val] h fun v h'=>∃s:Sl,v=s.val/\Rw h' s 2 (fcs (jn a b)):=by
 have hl1:s1.l=a.length:=by have:=w1.len;rw[cR] at this;omega
 have hl2:s2.l=b.length:=by have:=w2.len;rw[cR] at this;omega
 have hmg:=wZ _ a b (bJf _) ha hb;have hbd:=aPr 1000 4000 _ a b (bJf _) ea eb;have hml:=aGw _ a b (bJf _);have c1:=fun h s w=>aDj h s (mgM a b) w hmg.1 Aa (fun t ht=>⟨by have:=(hbd t ht).1;omega,by have:=(hbd t ht).2;omega⟩)
 rw[bFx ha hb];obtain⟨G,hG⟩:=AH (mgM a b);simp only[<-hG] at c1 ⊢;refine f0C ok D.q223 rfl ?_;conv=>whnf
 repeat' ((first|(show Mk _ _ _;first|refine Mk.of 0 rfl Ae Ae ?_|refine Mk.of (s1.l+s2.l) Aa Aa Aa ?_)|refine⟨bJe _,fun bt=>?_⟩|((first|apply oI.z|apply cI.z))|refine WN.i64 Aa Aa ?_)<;>conv=>whnf)
 refine LpN.of (fun r ρ hx L=>∃(i k:Nat) (out:Mon) (v:Value),r=a.length+b.length-(i+k)/\h.le hx/\i<=a.length/\k<=b.length/\rd ρ 6=.int .i64 i/\rd ρ 7=.int .i64 k/\rd ρ 5=v/\aF Ty.api_Factor 2 v out.length (fcs out) L/\out.length<=i+k/\Hq (G=out++mgM (a.drop i) (b.drop k))) (a.length+b.length)
  ⟨0,0,[],_,rfl,aA.lr _,bJe _,bJe _,rfl,rfl,rfl,aF.room rfl,bJf _,⟨hG⟩⟩ ?_
 clear hmg hbd hml hG;conv=>whnf
 repeat intro _
 rename_i r h3 L3 hI;obtain⟨i,k,out,v,rfl,hle,hi,hk,e6,e7,e5,g,ho,⟨hq⟩⟩:=hI;conv at e5=>lhs;whnf
 subst e5;conv at e6=>lhs;whnf
 subst e6;conv at e7=>lhs;whnf
 subst e7;have wa:=w1.mono hle;have wb:=w2.mono hle;by_cases hend:i=a.length/\k=b.length
 .rw[hend.1,hend.2,bMc,bMc,yQ,bIy] at hq;rw[<-hq] at g;conv=>whnf
  repeat' ((first|(show CN _ _ _ _ _ _;(refine CN.growR Ae g rfl (fun h' s' L' hl e w=>?_);refine CN.f rfl (c1 _ _ w) (fun v h' hl hr=>?_);obtain⟨s3,rfl,w3⟩:=hr))|((first|apply oI.z|apply cI.z))|(apply aB<;>intro _<;>try (exfalso;omega)))<;>conv=>whnf)
  exact RN.a ⟨s3,rfl,w3⟩
 by_cases hkB:k=b.length
 .obtain⟨t,ht⟩:∃x,a[i]?=some x:=⟨_,bIq Aa⟩
  have hq2:G=(out++[t])++mgM (a.drop (i+1)) (b.drop k):=by rw[hq,hkB,bMc,wY,wY,qK ht,bIt];rfl
  have et:=ea t (bIu ht);obtain⟨x,m⟩:=t;conv=>whnf
  repeat' first|((first|(show Idx _ _ _ _ _;refine Idx.facM wa i _ Aa ht (fun bk off k0 k1=>?_))|(show LdN _ _ _ _ _;(refine LdN.two (k0 _ _ Ad) (k1 _ _ Ad) ?_))|(show App _ _ _ _ _ _ _ _ _;refine App.growM (A:=[_]) (Fx:=L3) (size:=2) (bytes:=24) (z:=[.string ByteArray.empty,.int .i64 0]) rfl rfl g ⟨_,0,none⟩ 1 1 [_,_] rfl (Has.twoC _) rfl Ae Aa Aa Ae (fun v' F' g' hA=>?_))|((first|apply oI.z|apply cI.z))|intro (_:Nat)|refine WN.i64 Aa Aa ?_|refine DrN.run Ak ?_)<;>conv=>whnf)|(show cnd _ _ _;first|((first|apply aB|apply aD)<;>intro _<;>first|(exfalso;omega)|conv=>whnf))
  exact⟨rfl,a.length+b.length-(i+1+k),Aa,i+1,k,out++[(x,m)],v',rfl,Ab,Aa,hk,vi Aa,rfl,rfl,by rw[bIo];exact aF.fac m g' rfl,by rw[bIo];show _+1<=_;omega,⟨hq2⟩⟩
 by_cases hiA:i=a.length
 .obtain⟨t,ht⟩:∃x,b[k]?=some x:=⟨_,bIq Aa⟩
  have hq2:G=(out++[t])++mgM (a.drop i) (b.drop (k+1)):=by rw[hq,hiA,bMc,yQ,yQ,qK ht,bIt];rfl
  have et:=eb t (bIu ht);obtain⟨x,m⟩:=t;conv=>whnf
  repeat' first|((first|(show Idx _ _ _ _ _;refine Idx.facM wb k _ Aa ht (fun bk off k0 k1=>?_))|(show LdN _ _ _ _ _;(refine LdN.two (k0 _ _ Ad) (k1 _ _ Ad) ?_))|(show App _ _ _ _ _ _ _ _ _;refine App.growM (A:=[_]) (Fx:=L3) (size:=2) (bytes:=24) (z:=[.string ByteArray.empty,.int .i64 0]) rfl rfl g ⟨_,0,none⟩ 1 1 [_,_] rfl (Has.twoC _) rfl Ae Aa Aa Ae (fun v' F' g' hA=>?_))|((first|apply oI.z|apply cI.z))|intro (_:Nat)|refine WN.i64 Aa Aa ?_|refine DrN.run Ak ?_)<;>conv=>whnf)|(show cnd _ _ _;first|((first|apply aB|apply aD)<;>intro _<;>first|(exfalso;omega)|conv=>whnf))
  exact⟨rfl,a.length+b.length-(i+(k+1)),Aa,i,k+1,out++[(x,m)],v',rfl,Ab,hi,Aa,rfl,vi Aa,rfl,by rw[bIo];exact aF.fac m g' rfl,by rw[bIo];show _+1<=_;omega,⟨hq2⟩⟩
 .obtain⟨t,ht⟩:∃x,a[i]?=some x:=⟨_,bIq Aa⟩
  obtain⟨u,hu⟩:∃x,b[k]?=some x:=⟨_,bIq Aa⟩
  have et:=ea t (bIu ht);have eu:=eb u (bIu hu);rw[qK ht,qK hu] at hq;obtain⟨x,m⟩:=t;obtain⟨y,n⟩:=u;rw[aAn] at hq;dsimp only at et eu;conv=>whnf
  repeat' first|((first|(show DrN _ _ _ _ _ _;refine DrN.own [] (bJ9 _) Ak ?_)|refine⟨fun _=>⟨aJ.o (aA.lr _),bJ9 _⟩,?_⟩|((first|apply oI.z|apply cI.z))|intro (_:Nat)|(show Idx _ _ _ _ _;first|refine Idx.facM wa i _ Aa ht (fun bk off k0 k1=>?_)|refine Idx.facM wb k _ Aa hu (fun bk2 off2 m0 m1=>?_))|(show LdN _ _ _ _ _;first|(refine LdN.two (k0 _ _ Ad) (k1 _ _ Ad) ?_)|(refine LdN.two (m0 _ _ Ad) (m1 _ _ Ad) ?_))|(show Ld _ _ _ _;first|(refine Ld.of (k0 _ _ Ad) ?_)|(refine Ld.of (m0 _ _ Ad) ?_)|(refine Ld.of (k1 _ _ Ad) ?_)|(refine Ld.of (m1 _ _ Ad) ?_))|(show App _ _ _ _ _ _ _ _ _;refine App.growM (A:=[_]) (Fx:=L3) (size:=2) (bytes:=24) (z:=[.string ByteArray.empty,.int .i64 0]) rfl rfl g ⟨_,0,none⟩ 1 1 [_,_] rfl (Has.twoC _) rfl Ae Aa Aa Ae (fun v' F' g' hA=>?_))|refine WN.i64 Aa Aa ?_)<;>conv=>whnf)|(show cnd _ _ _;first|(refine aGr (fun hlt=>?_) (fun hlt=>?_)<;>(conv=>whnf))|((first|apply aB|apply aD)<;>intro _<;>first|(exfalso;omega)|conv=>whnf))
  .have hq2:G=(out++[(x,m)])++mgM (a.drop (i+1)) (b.drop k):=by rw[hq,if_pos (show x<y from hlt),qK hu,bIt];rfl
   exact⟨rfl,a.length+b.length-(i+1+k),Aa,i+1,k,out++[(x,m)],v',rfl,Ab,Aa,hk,vi Aa,rfl,rfl,by rw[bIo];exact aF.fac m g' rfl,by rw[bIo];show _+1<=_;omega,⟨hq2⟩⟩
  .have hq2:G=(out++[(y,n)])++mgM (a.drop i) (b.drop (k+1)):=by rw[hq,if_neg (show ¬x<y by assumption),if_pos (show y<x by assumption),qK ht,bIt];rfl
   exact⟨rfl,a.length+b.length-(i+(k+1)),Aa,i,k+1,out++[(y,n)],v',rfl,Ab,hi,Aa,rfl,vi Aa,rfl,by rw[bIo];exact aF.fac n g' rfl,by rw[bIo];show _+1<=_;omega,⟨hq2⟩⟩
  .have hq2:G=(out++[(x,m+n)])++mgM (a.drop (i+1)) (b.drop (k+1)):=by rw[hq,if_neg (show ¬x<y by assumption),if_neg (show ¬y<x by assumption),bIt];rfl
   exact⟨rfl,a.length+b.length-(i+1+(k+1)),Aa,i+1,k+1,out++[(x,m+n)],v',rfl,Ab,Aa,Aa,vi Aa,vi Aa,rfl,by rw[bIo];exact aF.fac (m+n) g' (by show (m:Int)+(n:Int)=_;omega),by rw[bIo];show _+1<=_;omega,⟨hq2⟩⟩
end Go.Proofs.Y
/- The document's limits; constants, atoms. -/
namespace Go.Vc
open Go Go.Dig
theorem gJ.len{K:aA->El->Prop}{h:aA}{s:Sl}{p:List (Mon × Rat)}(w:gJ K h s p):s.l=p.length:=by
 obtain⟨l,rfl,h2,-⟩:=w;have:=h2.len;rw[bK] at this;rw[bJb];omega
end Go.Vc
namespace Go.Proofs.Y
open Go Go.Vc Go.Dig
def wiN(p:Pol):Nat:=if aG7 p then 4 else if aG8 p then 1 else 0
attribute [local irreducible] Vc.Fn FnP
theorem aC2(h:aA)(s:Sl)(p:Pol)(w:gJ QmS h s p)(hb:p.length<=40400):Fn0 T F.q221 [s.val] h fun v h'=>v=.int .i64 (wiN p:Nat):=by
 have hl:=w.len;obtain⟨l,hp,rw,qw⟩:=w;have hpl:p.length=l.length:=by rw[<-hp,bJb]
 have k1:=aPn hp;have k2:=aPo hp;obtain⟨W,hW⟩:=AH (wiN p);have j1:200<l.length->W=4:=fun x=>hW.trans (if_pos (k1.2 (.inl x)))
 have j2:xR l=true->W=4:=fun x=>hW.trans (if_pos (k1.2 (.inr x)))
 have j3:¬200<l.length->xR l=false->zW l=true->W=1:=fun x y z=>hW.trans ((if_neg fun c=>(k1.1 c).elim x fun c=>by rw[y] at c;cases c).trans (if_pos (k2.2 z)))
 have j4:¬200<l.length->xR l=false->zW l=false->W=0:=fun x y z=>hW.trans ((if_neg fun c=>(k1.1 c).elim x fun c=>by rw[y] at c;cases c).trans (if_neg fun c=>by rw[k2.1 c] at z;cases z))
 rw[<-hW];clear k1 k2 hW hp;by_cases h200:200<l.length
 .have j:=j1 h200;refine f0C ok D.q221 rfl ?_;conv=>whnf
  repeat' ((first|((first|apply oI.z|apply cI.z))|(apply aB<;>intro _<;>try (exfalso;omega)))<;>conv=>whnf)
  exact RN.a (by rw[j];rfl)
 refine f0C ok D.q221 rfl ?_;conv=>whnf
 repeat' ((first|((first|apply oI.z|apply cI.z))|(apply aB<;>intro _<;>try (exfalso;omega)))<;>conv=>whnf)
 refine LpN.of (fun r ρ hx L=>∃(i:Nat),r=l.length-i/\h.le hx/\L=[]/\i<=l.length/\rd ρ 3=.int .i64 i/\Hq (xR (l.take i)=false)) l.length
  ⟨0,rfl,aA.lr _,rfl,bJe _,rfl,⟨rfl⟩⟩ ?_
 conv=>whnf
 repeat intro _
 rename_i q2 h2 L2 hI;obtain⟨i,rfl,hle,rfl,hi,e3,⟨hB⟩⟩:=hI;conv at e3=>lhs;whnf
 subst e3;have rw2:=rw.mono hle;by_cases hil:i=l.length
 .rw[hil,bI4] at hB;conv=>whnf
  repeat' ((first|((first|apply oI.z|apply cI.z))|(apply aB<;>intro _<;>try (exfalso;omega)))<;>conv=>whnf)
  refine LpN.of (fun r ρ hx L=>∃(i:Nat),r=l.length-i/\h2.le hx/\L=[]/\i<=l.length/\rd ρ 5=.int .i64 i/\Hq (zW (l.take i)=false)) l.length
   ⟨0,rfl,aA.lr _,rfl,bJe _,rfl,⟨rfl⟩⟩ ?_
  conv=>whnf
  repeat intro _
  rename_i q3 h3 L3 hI;obtain⟨k,rfl,hle3,rfl,hk,e5,⟨hC⟩⟩:=hI;conv at e5=>lhs;whnf
  subst e5;have rw3:=rw2.mono hle3;by_cases hkl:k=l.length
  .rw[hkl,bI4] at hC;have j:=j4 h200 hB hC;conv=>whnf
   repeat' ((first|((first|apply oI.z|apply cI.z))|(apply aB<;>intro _<;>try (exfalso;omega)))<;>conv=>whnf)
   exact RN.a (by rw[j];rfl)
  .obtain⟨x,hx⟩:∃t,l[k]?=some t:=⟨_,bIq Aa⟩
   have hxm:=bIu hx;have hxw:=qw x hxm;have hsn:=aE1 hx;have hbig:¬fits x.q->zW l=true:=fun c=>by
    unfold zW;rw[bM8];exact⟨x,hxm,by rw[show dec (fits x.q)=false from aH c];rfl⟩
   obtain⟨xn,xa,xd,xf,xm,xq⟩:=x;obtain rfl:xn=sg xq:=hxw.m.sg;dsimp only at hsn hbig;have c1:=fun h w=>aLy h xa xd xq w (hxw.z.mono Ae)
   have wq:=(hxw.m.q.mono hle).mono hle3;rw[hC,bNq] at hsn;conv=>whnf
   repeat' first|((first|(show Idx _ _ _ _ _;refine Idx.el rw3 k _ Aa hx (fun ab ao aw=>?_))|(show LdN _ _ _ _ _;(refine LdN.elq aw Ad ?_))|(show CN _ _ _ _ _ _;(refine CN.quiet rfl (c1 _ (wq.mono Ad)) ?_))|((first|apply oI.z|apply cI.z))|refine WN.i64 Aa Aa ?_)<;>conv=>whnf)|(show cnd _ _ _;first|(apply aB<;>intro _<;>first|(exfalso;omega)|conv=>whnf)|(refine aI ?_)|(apply aU<;>intro _<;>first|(exfalso;omega)|conv=>whnf))
   all_goals first
    | exact⟨rfl,l.length-(k+1),Aa,k+1,rfl,Ab,rfl,Aa,vi Aa,⟨by rw[hsn,show dec (fits xq)=true from aX Ab];rfl⟩⟩
    | (have j:=j3 h200 hB (hbig Ab)
       exact RN.a (by rw[j];rfl))
 .obtain⟨x,hx⟩:∃t,l[i]?=some t:=⟨_,bIq Aa⟩
  have hxm:=bIu hx;have hxw:=qw x hxm;have hsn:=aE2 hx;have hlim:vT x.m=true->xR l=true:=fun c=>by
   unfold xR;rw[bM8];exact⟨x,hxm,c⟩
  have xfw:=hxw.m.fac.rw.mono hle;have xfl:=hxw.m.fac.len;have hxf:x.f.l=x.m.length:=by have:=xfw.len;rw[cR] at this;omega
  rw[hB,bNq] at hsn;conv=>whnf
  repeat' ((first|((first|apply oI.z|apply cI.z))|(apply aB<;>intro _<;>try (exfalso;omega)))<;>conv=>whnf)
  refine LpN.of (fun r ρ hx L=>∃(k:Nat),r=x.m.length-k/\h2.le hx/\L=[]/\k<=x.m.length/\rd ρ 4=.int .i64 k/\Hq (vT (x.m.take k)=false)) x.m.length
   ⟨0,rfl,aA.lr _,rfl,bJe _,rfl,⟨rfl⟩⟩ ?_
  conv=>whnf
  repeat intro _
  rename_i q3 h3 L3 hI;obtain⟨k,rfl,hle3,rfl,hk,e4,⟨hC⟩⟩:=hI;conv at e4=>lhs;whnf
  subst e4;have rw3:=rw2.mono hle3;have xf3:=xfw.mono hle3;by_cases hkl:k=x.m.length
  .rw[hkl,bI4] at hC;rw[hC] at hsn;conv=>whnf
   repeat' ((first|(show Idx _ _ _ _ _;refine Idx.el rw3 i _ Aa hx (fun ab ao aw=>?_))|(show Ld _ _ _ _;(refine Ld.elf aw Ad ?_))|((first|apply oI.z|apply cI.z))|refine WN.i64 Aa Aa ?_|(apply aB<;>intro _<;>try (exfalso;omega)))<;>conv=>whnf)
   all_goals trace_state
   all_goals exact⟨rfl,l.length-(i+1),Aa,i+1,rfl,Ac,rfl,Aa,vi Aa,⟨hsn⟩⟩
  .obtain⟨t,ht⟩:∃t,x.m[k]?=some t:=⟨_,bIq Aa⟩
   have hsm:=yV ht;rw[hC,bNq] at hsm;have h64:64<t.2->vT x.m=true:=fun c=>aCy.2 ⟨t,bIu ht,c⟩
   conv=>whnf
   repeat' ((first|(show Idx _ _ _ _ _;first|refine Idx.el rw3 i _ Aa hx (fun ab ao aw=>?_)|refine Idx.facM xf3 k _ Aa ht (fun bk off k0 k1=>?_))|(show Ld _ _ _ _;first|(refine Ld.elf aw Ad ?_)|(refine Ld.of (k1 _ _ Ad) ?_))|((first|apply oI.z|apply cI.z))|refine WN.i64 Aa Aa ?_|(apply aB<;>intro _<;>try (exfalso;omega)))<;>conv=>whnf)
   all_goals trace_state
   all_goals first
    | exact⟨rfl,x.m.length-(k+1),Aa,k+1,rfl,Ab,rfl,Aa,vi Aa,⟨by rw[hsm,decide_eq_false Aa]⟩⟩
    | (have j:=j2 (hlim (h64 Aa))
       exact RN.a (by rw[j];rfl))
end Go.Proofs.Y
/- Products and sums of forms, as the document forms them. -/
namespace Go.Dig
theorem aKq(l:List (Mon × Rat)):(bZ l).length<=l.length:=by
 have h1:∀(k:Mon) (v:Rat) (q:List (Mon × Rat)),(iR k v q).length<=q.length+1:=by
  intro k v q
  induction q with
  | nil=>simp[iR]
  | cons t q ih=>
   obtain⟨n,d⟩:=t;unfold iR
   split
   .simp
   .split
    .simp
    .simp only[bIs];omega
 have h2:∀q:List (Mon × Rat),(kP q).length<=q.length:=by
  intro q
  induction q with
  | nil=>simp[kP]
  | cons t q ih=>
   show (iR t.1 t.2 (kP q)).length<=_
   have:=h1 t.1 t.2 (kP q);rw[bIs];omega
 unfold bZ;exact bJd (bMe ..) (h2 _)
end Go.Dig
namespace Go.Proofs.Y
open Go Go.Vc Go.Dig
theorem mN{q:Rat}(h:fits q):Sr 128 q:=⟨((aBm q).1 h).1,((aBm q).1 h).2⟩
def RFo(h:aA)(v:Value)(r:Except Nat Pol):Prop:=∃(s:Sl) (e:Nat),v=.tuple #[s.val,.int .i64 e]/\((e=0/\∃p,r=.ok p/\gJ QmS h s p)\/(e≠0/\r=.error e))
theorem aXm{h:aA}{s:Sl}{l p:Pol}{r:Except Nat Pol}(hr:bS l=r)(hp:p=bZ l)(w:gJ QmS h s p):RFo h (.tuple #[s.val,.int .i64 (wiN p:Nat)]) r:=by
 refine⟨s,wiN p,rfl,?_⟩;subst hr;unfold bS wiN;rw[<-hp];by_cases h1:aG7 p
 .rw[if_pos h1,if_pos h1];exact .inr ⟨Ae,rfl⟩
 .rw[if_neg h1,if_neg h1];by_cases h2:aG8 p
  .rw[if_pos h2,if_pos h2];exact .inr ⟨Ae,rfl⟩
  .rw[if_neg h2,if_neg h2];exact .inl ⟨rfl,p,rfl,w⟩
theorem gS{h:aA}{r:Except Nat Pol}{n:Nat}(h0:n≠0)(e:r=.error n):RFo h (.tuple #[.slice none 0 0,.int .i64 n]) r:=⟨⟨none,0,0⟩,n,rfl,.inr ⟨h0,e⟩⟩
attribute [local irreducible] Vc.Fn FnP
theorem yY(h:aA)(S:List (List UInt8))(hS:S.length<=100000)(hSo:Sok S)(s1 s2:Sl)(a b:Pol)(w1:gJ QmS h s1 a)(w2:gJ QmS h s2 b)(g1:PG S a)(g2:PG S b):Fn0 T F.q141 [s1.val,s2.val] h fun v h'=>RFo h' v (bS (tmL a b)):=by
 have pl1:=g1.len;have pl2:=g2.len;have pk1:=g1.key;have pk2:=g2.key;obtain⟨l1,e1,r1,t1⟩:=w1;obtain⟨l2,e2,r2,t2⟩:=w2;have hl1:l1.length<=200:=by have:=g1.good.len;rw[<-e1,bJb] at this;exact this
 have hl2:l2.length<=200:=by have:=g2.good.len;rw[<-e2,bJb] at this;exact this
 have mm1:∀x∈l1,pq x∈a:=fun x hx=>by rw[<-e1];exact bJg hx
 have mm2:∀x∈l2,pq x∈b:=fun x hx=>by rw[<-e2];exact bJg hx
 have z1:∀x∈l1,Sr 128 x.q:=fun x hx=>mN (g1.good.fit (pq x) (mm1 x hx))
 have z2:∀x∈l2,Sr 128 x.q:=fun x hx=>mN (g2.good.fit (pq x) (mm2 x hx))
 have o1:∀x∈l1,kN x.m:=fun x hx=>(g1.good.red (pq x) (mm1 x hx)).1.1
 have o2:∀x∈l2,kN x.m:=fun x hx=>(g2.good.red (pq x) (mm2 x hx)).1.1
 have hs1:s1.l=l1.length:=by have:=r1.len;rw[bK] at this;omega
 have hs2:s2.l=l2.length:=by have:=r2.len;rw[bK] at this;omega
 have hj1:∀x∈l1,x.m.length<=100000/\∀t∈x.m,t.2<=1000/\t.1.length<=4000:=fun x hx=>by
  have a1:=pl1 _ (mm1 x hx);dsimp only[pq] at a1;exact⟨Aa,fun t ht=>⟨bJd (g1.good.deg _ (mm1 x hx) t ht) Ae,hSo _ (pk1 _ (mm1 x hx) t ht)⟩⟩
 have hj2:∀x∈l2,x.m.length<=100000/\∀t∈x.m,t.2<=1000/\t.1.length<=4000:=fun x hx=>by
  have a1:=pl2 _ (mm2 x hx);dsimp only[pq] at a1;exact⟨Aa,fun t ht=>⟨bJd (g2.good.deg _ (mm2 x hx) t ht) Ae,hSo _ (pk2 _ (mm2 x hx) t ht)⟩⟩
 have hprod:l1.length*l2.length<=40000:=bJ8 hl1 hl2;obtain⟨r,hr⟩:=AH (bS (tmL a b));rw[<-hr];clear pl1 pl2 pk1 pk2 mm1 mm2 g1 g2 hSo hS;have hcap:s1.l*s2.l<=40000:=by rw[hs1,hs2];exact hprod
 obtain⟨C,hC⟩:=AH (s1.l*s2.l);have hCi:(s1.l:Int)*(s2.l:Int)=(C:Int):=by rw[hC];push_cast;rfl
 rw[<-hC] at hcap;refine f0C ok D.q141 rfl ?_;conv=>whnf
 repeat' ((first|(show WN _ _ _;(show WN IntKind.i64 ((s1.l:Int)*(s2.l:Int)) _;rw[hCi];refine WN.i64 Aa Aa ?_))|(show Mk _ _ _;first|refine Mk.of 0 rfl Ae Ae ?_|refine Mk.of C rfl Aa Aa ?_)|refine⟨bJe _,fun bt=>?_⟩|((first|apply oI.z|apply cI.z)))<;>conv=>whnf)
 refine LpN.of (fun r ρ hx L=>∃(i:Nat) (M:List El) (v:Value),r=l1.length-i/\h.le hx/\i<=l1.length/\rd ρ 7=.int .i64 i/\rd ρ 6=v/\aF Ty.ref04_term 4 v M.length (fl M) L/\M.length=i*l2.length/\Hq (M.map pq=tmL ((l1.take i).map pq) b)/\Hq (∀x∈M,QmW hx x/\Sr 260 x.q)) l1.length
  ⟨0,[],_,rfl,aA.lr _,bJe _,rfl,rfl,aF.room rfl,(bKi _).symm,⟨rfl⟩,⟨fun x hx=>by cases hx⟩⟩ ?_
 conv=>whnf
 repeat intro _
 rename_i q2 h2 L2 hI;obtain⟨i,M,v,rfl,hle,hi,e7,e6,g,hM,⟨hq⟩,⟨hw⟩⟩:=hI;conv at e6=>lhs;whnf
 subst e6;conv at e7=>lhs;whnf
 subst e7;have r1x:=r1.mono hle;have hML:M.length<=40000:=by rw[hM];exact bJd (bI8 _ hi) hprod
 by_cases hil:i=l1.length
 .have hr2:bS (M.map pq)=r:=by rw[hr,hq,hil,bI4,e1]
  have c5:=fun h s w fw=>aC1 h s M w Aa fw
  have c6:=fun h s w=>aC2 h s (bZ (M.map pq)) w
  obtain⟨P,hP⟩:=AH (bZ (M.map pq));simp only[<-hP] at c5 c6;have hPl:P.length<=40400:=by rw[hP];exact bJd (aKq _) (by rw[bJb];omega)
  obtain⟨N1,hN1⟩:=AH l1.length;rw[<-hN1] at hil hs1 ⊢;conv=>whnf
  repeat' ((first|(show CN _ _ _ _ _ _;first|(refine CN.growR Ae g rfl (fun h' s' L' hl e w=>?_);refine CN.f rfl (c5 _ _ w (fun x hx=>⟨UpE.up Ab (hw x hx).1,(hw x hx).2⟩)) (fun v h' hl hr=>?_);obtain⟨s3,rfl,w3⟩:=hr)|(refine CN.f rfl (c6 _ _ (w3.mono Ad) hPl) (fun v h' hl hr=>?_);subst hr))|((first|apply oI.z|apply cI.z))|(apply aB<;>intro _<;>try (exfalso;omega)))<;>conv=>whnf)
  exact RN.a (R:=fun v h'=>RFo h' v r) (aXm hr2 hP (w3.mono Ab))
 .obtain⟨x,hx⟩:∃t,l1[i]?=some t:=⟨_,bIq Aa⟩
  have hxm:=bIu hx;have wx:=(t1 x hxm).m.mono hle;have zx:=z1 x hxm;have hjx:=hj1 x hxm;have ox:=o1 x hxm;have hsn:=aY hx;have htm:tmL ((l1.take (i+1)).map pq) b=tmL ((l1.take i).map pq) b++b.map fun y=>(jn x.m y.1,x.q*y.2):=by
   rw[hsn,bI3];unfold tmL;rw[bNb]
   congr 1
   show (b.map fun y=>(jn x.m y.1,x.q*y.2))++[]=_
   rw[bIy]
  obtain⟨xn,xa,xd,xf,xm,xq⟩:=x;obtain rfl:xn=sg xq:=wx.sg;dsimp only at htm zx hjx ox;conv=>whnf
  repeat' ((first|((first|apply oI.z|apply cI.z))|(apply aB<;>intro _<;>try (exfalso;omega)))<;>conv=>whnf)
  refine LpN.of (fun r ρ hx L=>∃(k:Nat) (M2:List El) (v:Value),r=l2.length-k/\h2.le hx/\k<=l2.length/\rd ρ 8=.int .i64 k/\rd ρ 6=v/\aF Ty.ref04_term 4 v (M.length+k) (fl (M++M2)) L/\M2.length=k/\Hq (M2.map pq=((l2.take k).map pq).map fun y=>(jn xm y.1,xq*y.2))/\Hq (∀x∈M++M2,QmW hx x/\Sr 260 x.q)) l2.length
   ⟨0,[],_,rfl,aA.lr _,bJe _,rfl,rfl,by rw[bIy];exact g,rfl,⟨rfl⟩,⟨fun x hx=>by rw[bIy] at hx;exact hw x hx⟩⟩ ?_
  clear g hw;conv=>whnf
  repeat intro _
  rename_i q4 h4 L4 hI;obtain⟨k,M2,v,rfl,hle4,hk,e8,e6,g,hM2,⟨hq2⟩,⟨hw⟩⟩:=hI;conv at e6=>lhs;whnf
  subst e6;conv at e8=>lhs;whnf
  subst e8;have r1y:=r1x.mono hle4;have r2y:=(r2.mono hle).mono hle4;by_cases hkl:k=l2.length
  .have hq3:(M++M2).map pq=tmL ((l1.take (i+1)).map pq) b:=by rw[htm,bI3,hq,hq2,hkl,bI4,e2]
   have hM3:(M++M2).length=(i+1)*l2.length:=by rw[bIo,hM,hM2,hkl,bJu,bLi]
   have g3:=g;rw[<-hM2,<-bIo] at g3;obtain⟨N2,hN2⟩:=AH l2.length;obtain⟨N1,hN1⟩:=AH l1.length;rw[<-hN2] at hkl hs2 hM3 ⊢;rw[<-hN1] at hi hil ⊢;conv=>whnf
   repeat' ((first|((first|apply oI.z|apply cI.z))|refine WN.i64 Aa Aa ?_|(apply aB<;>intro _<;>try (exfalso;omega)))<;>conv=>whnf)
   exact⟨rfl,N1-(i+1),Aa,i+1,M++M2,_,rfl,Ac,Aa,vi Aa,rfl,g3,hM3,⟨hq3⟩,⟨hw⟩⟩
  .obtain⟨y,hy⟩:∃t,l2[k]?=some t:=⟨_,bIq Aa⟩
   have hym:=bIu hy;have wy:=((t2 y hym).m.mono hle).mono hle4;have zy:=z2 y hym;have hjy:=hj2 y hym;have oy:=o2 y hym;have hsn2:=aY hy;have hM2L:M.length+k<=40200:=Aa;obtain⟨yn,ya,yd,yf,ym,yq⟩:=y;obtain rfl:yn=sg yq:=wy.sg;dsimp only at hjy zy oy;have c3:=fun h w1 w2=>aAf h xa xd ya yd xq yq w1 w2 (zx.mono Ae) (zy.mono Ae)
   have c4:=fun h w1 w2=>aNj h xf yf xm ym w1 w2 ox oy Aa hjx.2 hjy.2
   have wx4:=wx.mono hle4;have wxq:=wx4.q;have wyq:=wy.q;have wxf:=wx4.fac.rw;have wyf:=wy.fac.rw;have hjl:(jn xm ym).length<=1099511627776:=bJd (aW0 _ _) Aa;obtain⟨J,hJ⟩:=AH (jn xm ym);simp only[<-hJ] at c4;rw[<-hJ] at hjl;conv=>whnf
   repeat' first|((first|(show Idx _ _ _ _ _;first|refine Idx.el r1y i _ Aa hx (fun ab ao aw=>?_)|refine Idx.el r2y k _ Aa hy (fun bb bo bw=>?_))|(show LdN _ _ _ _ _;first|(refine LdN.elq aw Ad ?_)|(refine LdN.elq bw Ad ?_)|refine LdN.oA 0 rfl rfl ?_)|(show Ld _ _ _ _;first|(refine Ld.elf aw Ad ?_)|(refine Ld.elf bw Ad ?_))|(show CN _ _ _ _ _ _;first|(refine CN.f rfl (c3 _ (wxq.mono Ad) (wyq.mono Ad)) (fun v h' hl hr'=>?_);obtain⟨m1,m2,rfl,hm'⟩:=hr')|(refine CN.f rfl (c4 _ (wxf.mono Ab) (wyf.mono Ab)) (fun v h' hl hr'=>?_);obtain⟨sj,rfl,hj'⟩:=hr'))|(show App _ _ _ _ _ _ _ _ _;refine App.growM (A:=[_,_]) (Fx:=L4) (size:=4) (bytes:=80) (z:=[.bool false,.slice none 0 0,.slice none 0 0,.slice none 0 0]) rfl rfl g ⟨_,0,none⟩ 1 1 [_,_,_,_] rfl (Has.four _) rfl Ae Aa Aa Ae (fun v' F' g' hA=>?_))|((first|apply oI.z|apply cI.z))|refine⟨fun _=>aJ.o Ab,?_⟩|refine⟨fun _=>aJ.cons _,?_⟩|refine⟨fun hst=>(by cases (show true=false from hst)),?_⟩|intro (_:Nat)|refine WN.i64 Aa Aa ?_|refine Sto.l 0 rfl rfl rfl ?_|refine DrN.run Ak ?_|(apply aB<;>intro _<;>try (exfalso;omega)))<;>conv=>whnf)|(refine rY.mk ?_ ?_<;>(conv=>whnf))
   all_goals (
     have hMx:(M2++[(⟨sg (xq*yq),m1,m2,sj,J,xq*yq⟩:El)]).map pq=((l2.take (k+1)).map pq).map fun y=>(jn xm y.1,xq*y.2):=by
       rw[bI3,hq2,hsn2,bI3,bI3,hJ];rfl
     exact⟨rfl,l2.length-(k+1),Aa,k+1,M2++[⟨sg (xq*yq),m1,m2,sj,J,xq*yq⟩],v',rfl,Ac,Aa,vi Aa,rfl,by rw[<-bIt];exact aF.el (x:=⟨sg (xq*yq),m1,m2,sj,J,xq*yq⟩) g',by rw[bIo,hM2];rfl,⟨hMx⟩,⟨fun x hx=>by
       rw[<-bIt] at hx;rcases bIx.1 hx with hx|hx
       .exact⟨UpE.up Ac (hw x hx).1,(hw x hx).2⟩
       .rw[bI2] at hx;subst hx;exact⟨⟨hm'.mono Ab,rfl,⟨hj'.mono Ad,hjl⟩⟩,(Sr.mulS zx zy).mono Ae⟩⟩⟩)
end Go.Proofs.Y
/- Sums of forms, as the document forms them; constants, atoms. -/
namespace Go.Vc
open Go Go.Dig
theorem App.rowE{T:Tab}{e:TypeId}{size bytes:Nat}{s:Value}{h:aA}{L:Vc.Own}{k:Value->aA->Vc.Own->Prop}{z xs cs:List Value}{n:Nat}{t:Sl}(hi:T.inf e=some (z,bytes))(hz:z.length=size)(hsz:0<size)(g:aF e size s n xs L)(w:Rw h t size cs)(hone:cs.all gT=true)(hn:n+t.l<=1048576)(hby:bytes<=256)
  (hk:∀v' L',aF e size v' (n+t.l) (xs++cs) L'->k v' h L'):App T e size bytes s t.val h L k:=by
 obtain⟨ta,tl,tc⟩:=t;cases ta with
 | none=>
  have hc:cs=[]:=Classical.byContradiction fun hne=>by
   obtain⟨b',off,c,T',fz,h1,h2,h3⟩:=w.mem hne;cases h1
  subst hc;have hl:tl*size=0:=w.len;have h0:tl=0:=by
   rcases Nat.mul_eq_zero.1 hl with h|h
   .exact h
   .omega
  subst h0;exact App.nil hi g (hk s L (by rw[bIy];exact g))
 | some ad=>
  refine App.grow hi hz g ad tl tc cs w.len.symm (fun j hj=>?_) hone ?_ ?_ hsz fun v' L' g' _=>hk v' L' g'
  .obtain⟨b',off,c,T',fz,h1,h2,h3⟩:=w.mem (fun x=>by rw[x] at hj;simp at hj)
   cases h1
   rw[bQ];refine Has.imm h2 ?_;rw[h3 j hj,bIp,bIq hj];rfl
  .have:n+tl<=1048576:=hn;omega
  .have:n+tl<=1048576:=hn
   calc (n+tl)*bytes<=1048576*256:=bJ8 Aa hby
    _<=_:=Ae
end Go.Vc
namespace Go.Proofs.Y
open Go Go.Vc Go.Dig
attribute [local irreducible] Vc.Fn FnP
theorem aC3(h:aA)(s1 s2:Sl)(a b:Pol)(k:Int)(hk:k=1\/k=-1)(w1:gJ QmS h s1 a)(w2:gJ QmS h s2 b)(g1:lG a)(g2:lG b):Fn0 T F.q139 [s1.val,s2.val,.int .i64 k] h fun v h'=>RFo h' v (bS (plL a b (k:Rat))):=by
 obtain⟨l1,e1,r1,t1⟩:=w1;obtain⟨l2,e2,r2,t2⟩:=w2;have hl1:l1.length<=200:=by have:=g1.len;rw[<-e1,bJb] at this;exact this
 have hl2:l2.length<=200:=by have:=g2.len;rw[<-e2,bJb] at this;exact this
 have z1:∀x∈l1,Sr 128 x.q:=fun x hx=>mN (g1.fit (pq x) (by rw[<-e1];exact bJg hx))
 have z2:∀x∈l2,Sr 128 x.q:=fun x hx=>mN (g2.fit (pq x) (by rw[<-e2];exact bJg hx))
 have hs1:s1.l=l1.length:=by have:=r1.len;rw[bK] at this;omega
 have hs2:s2.l=l2.length:=by have:=r2.len;rw[bK] at this;omega
 have zk:Sr 128 (k:Rat):=mN ⟨(aNh hk).num,(aNh hk).den⟩;have hkb:-9223372036854775808<=k/\k<=9223372036854775807:=Aa;obtain⟨r,hr⟩:=AH (bS (plL a b (k:Rat)));rw[<-hr];obtain⟨K,hK⟩:∃K:Rat,K=(k:Rat):=⟨_,rfl⟩
 have c2:=fun h=>qZ h k hkb.1 hkb.2
 rw[<-hK] at hr zk;simp only[<-hK] at c2;refine f0C ok D.q139 rfl ?_;conv=>whnf
 repeat' ((first|(show Mk _ _ _;first|refine Mk.of 0 rfl Ae Ae ?_|refine Mk.of (s1.l+s2.l) Aa Aa Aa ?_)|refine⟨bJe _,fun bt=>?_⟩|((first|apply oI.z|apply cI.z))|(show App _ _ _ _ _ _ _ _ _;refine App.rowE (size:=4) (bytes:=80) (z:=[.bool false,.slice none 0 0,.slice none 0 0,.slice none 0 0]) (cs:=fl l1) rfl rfl Ae (aF.room rfl) r1 (aW7 _) Aa Ae (fun v' L' g=>?_))|refine WN.i64 Aa Aa ?_)<;>conv=>whnf)
 rw[bJc,hs1,bKc] at g;refine LpN.of (fun r ρ hx L=>∃(i:Nat) (M:List El) (v:Value),r=l2.length-i/\h.le hx/\i<=l2.length/\rd ρ 9=.int .i64 i/\rd ρ 8=v/\aF Ty.ref04_term 4 v (l1.length+i) (fl (l1++M)) L/\M.length=i/\Hq (M.map pq=((l2.take i).map pq).map fun t=>(t.1,t.2*K))/\Hq (∀x∈l1++M,QmW hx x/\Sr 260 x.q)) l2.length
  ⟨0,[],_,rfl,aA.lr _,bJe _,rfl,rfl,by rw[bIy];exact g,rfl,⟨rfl⟩,⟨fun x hx=>by rw[bIy] at hx;exact⟨(t1 x hx).m,(z1 x hx).mono Ae⟩⟩⟩ ?_
 clear g;conv=>whnf
 repeat intro _
 rename_i q2 h2 L2 hI;obtain⟨i,M,v,rfl,hle,hi,e9,e8,g,hM,⟨hq⟩,⟨hw⟩⟩:=hI;conv at e8=>lhs;whnf
 subst e8;conv at e9=>lhs;whnf
 subst e9;have r2x:=r2.mono hle;by_cases hil:i=l2.length
 .have hr2:bS ((l1++M).map pq)=r:=by
   rw[hr,bI3,hq,hil,bI4,e1,e2];rfl
  have hlen:(l1++M).length=l1.length+i:=by rw[bIo,hM]
  have c5:=fun h s w fw=>aC1 h s (l1++M) w Aa fw
  have c6:=fun h s w=>aC2 h s (bZ ((l1++M).map pq)) w
  obtain⟨P,hP⟩:=AH (bZ ((l1++M).map pq));simp only[<-hP] at c5 c6;have hPl:P.length<=40400:=by rw[hP];exact bJd (aKq _) (by rw[bJb];omega)
  conv=>whnf
  repeat' ((first|(show CN _ _ _ _ _ _;first|(refine CN.growR Ae g rfl (fun h' s' L' hl e w=>?_);refine CN.f rfl (c5 _ _ w (fun x hx=>⟨UpE.up Ab (hw x hx).1,(hw x hx).2⟩)) (fun v h' hl hr=>?_);obtain⟨s3,rfl,w3⟩:=hr)|(refine CN.f rfl (c6 _ _ (w3.mono Ad) hPl) (fun v h' hl hr=>?_);subst hr))|((first|apply oI.z|apply cI.z))|(apply aB<;>intro _<;>try (exfalso;omega)))<;>conv=>whnf)
  exact RN.a (R:=fun v h'=>RFo h' v r) (aXm hr2 hP (w3.mono Ab))
 .obtain⟨x,hx⟩:∃t,l2[i]?=some t:=⟨_,bIq Aa⟩
  have wx:=(t2 x (bIu hx)).m.mono hle;have zx:=z2 x (bIu hx);have hsn:=aY hx;obtain⟨xn,xa,xd,xf,xm,xq⟩:=x;obtain rfl:xn=sg xq:=wx.sg;have c3:=fun h (c d:Sl) w1 w2=>aAf h c d xa xd K xq w1 w2 (zk.mono Ae) (zx.mono Ae)
  simp only[bMz K xq] at c3;have wxq:=wx.q;conv=>whnf
  repeat' first|((first|(show Idx _ _ _ _ _;refine Idx.el r2x i _ Aa hx (fun ab ao aw=>?_))|(show LdN _ _ _ _ _;first|(refine LdN.elq aw Ad ?_)|refine LdN.oA 0 rfl rfl ?_)|(show Ld _ _ _ _;(refine Ld.elf aw Ad ?_))|(show CN _ _ _ _ _ _;first|(refine CN.f rfl (c2 _) (fun v h' hl hr'=>?_);obtain⟨i1,i2,rfl,hi'⟩:=hr')|(refine CN.f rfl (c3 _ _ _ Ab (wxq.mono Ab)) (fun v h' hl hr'=>?_);obtain⟨m1,m2,rfl,hm'⟩:=hr'))|(show App _ _ _ _ _ _ _ _ _;refine App.growM (A:=[_,_]) (Fx:=L2) (size:=4) (bytes:=80) (z:=[.bool false,.slice none 0 0,.slice none 0 0,.slice none 0 0]) rfl rfl g ⟨_,0,none⟩ 1 1 [_,_,_,_] rfl (Has.four _) rfl Ae Aa Aa Ae (fun v' F' g' hA=>?_))|((first|apply oI.z|apply cI.z))|refine⟨fun _=>aJ.o Ab,?_⟩|refine⟨fun _=>aJ.cons _,?_⟩|refine⟨fun hst=>(by cases (show true=false from hst)),?_⟩|intro (_:Nat)|refine WN.i64 Aa Aa ?_|refine Sto.l 0 rfl rfl rfl ?_|refine DrN.run Ak ?_|(apply aB<;>intro _<;>try (exfalso;omega)))<;>conv=>whnf)|(refine rY.mk ?_ ?_<;>(conv=>whnf))
  all_goals (
    have hMx:(M++[(⟨sg (xq*K),m1,m2,xf,xm,xq*K⟩:El)]).map pq=((l2.take (i+1)).map pq).map fun t=>(t.1,t.2*K):=by
      rw[bI3,hq,hsn,bI3,bI3];rfl
    exact⟨rfl,l2.length-(i+1),Aa,i+1,M++[⟨sg (xq*K),m1,m2,xf,xm,xq*K⟩],v',rfl,Ac,Aa,vi Aa,rfl,by rw[<-bIt];exact aF.el (x:=⟨sg (xq*K),m1,m2,xf,xm,xq*K⟩) g',by rw[bIo,hM];rfl,⟨hMx⟩,⟨fun x hx=>by
      rw[<-bIt] at hx;rcases bIx.1 hx with hx|hx
      .exact⟨UpE.up Ac (hw x hx).1,(hw x hx).2⟩
      .rw[bI2] at hx;subst hx;exact⟨⟨hm'.mono Ad,rfl,⟨wx.fac.rw.mono Ac,wx.fac.len⟩⟩,(Sr.mulS zx zk).mono Ae⟩⟩⟩)
end Go.Proofs.Y