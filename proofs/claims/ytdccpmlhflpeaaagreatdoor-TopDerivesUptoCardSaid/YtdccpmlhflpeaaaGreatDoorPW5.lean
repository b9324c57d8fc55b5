/- Factors in memory; the program's order of two rows of factors. -/
import Derived.Test.YtdccpmlhflpeaaaGreatDoorPS2
set_option linter.all false
set_option maxHeartbeats 2000000
set_option maxRecDepth 20000
namespace Go.Vc
open Go Go.Dig
def fcv(t:Fac):List Value:=[.string ⟨t.1.toArray⟩,.int .i64 (t.2:Nat)]
def fcs(m:Mon):List Value:=m.flatMap fcv
theorem gQ:∀m:Mon,(fcs m).length=m.length*2
 | []=>rfl
 | t::m=>by
  show (fcv t++fcs m).length=_
  rw[bC6,gQ m,bDa];simp[fcv];omega
theorem aLp{m:Mon}{j:Nat}{t:Fac}(h:m[j]?=some t)(k:Nat)(hk:k<2):(fcs m)[j*2+k]?=(fcv t)[k]?:=by
 induction m generalizing j with
 | nil=>simp at h
 | cons u m ih=>
  show (fcv u++fcs m)[j*2+k]?=_
  cases j with
  | zero=>
   simp at h;subst h;rw[bEv,bDu,bDi (by show k<2;exact hk)]
  | succ j=>
   rw[bDs (by show 2<=_;omega),show (j+1)*2+k-(fcv u).length=j*2+k by show (j+1)*2+k-2=_;omega]
   exact ih (by simpa using h)
theorem Idx.fac{h:aA}{s:Sl}{m:Mon}(w:Rw h s 2 (fcs m)){i:Int}{k:Addr->Prop}(j:Nat)(t:Fac)(hi:i=j)(ht:m[j]?=some t)
  (hk:∀b off,(∀L,Has h L ⟨b,off,none⟩ (.string ⟨t.1.toArray⟩))->(∀L,Has h L ⟨b,off+1,none⟩ (.int .i64 (t.2:Nat)))->k ⟨b,off,none⟩):Idx s.a i s.l 2 k:=by
 have hj:=(bC9.1 ht).1;have hl:=gQ m;have hne:fcs m≠[]:=fun e=>by rw[e] at hl;simp at hl;omega
 obtain⟨b,off,c,T,fz,h1,h2,h3⟩:=w.mem hne;have hlen:=w.len;have get:∀n,n<2->∀L,Has h L ⟨b,off+j*2+n,none⟩ ((fcv t).getD n undef):=fun n hn L=>by
  refine Has.imm h2 ?_;rw[bE4,h3 _ Aa,aLp ht n hn]
  match n,hn with
  | 0,_=>rfl
  | 1,_=>rfl
 exact Idx.of j h1 hi Aa (hk _ _ (get 0 Ad) (get 1 Ad))
theorem LdN.two{h:aA}{L:Own}{b o:Nat}{x y:Value}{k:Value->Prop}(h0:Has h L ⟨b,o,none⟩ x)(h1:Has h L ⟨b,o+1,none⟩ y)(hk:k (.agg #[x,y])):LdN h L ⟨b,o,none⟩ 2 k:=
 ⟨[x,y],rfl,fun i hi=>by
   rw[bB]
   match i,hi with
   | 0,_=>exact h0
   | 1,_=>exact h1,hk⟩
theorem aWe{x y:List UInt8}{p q:Prop}(hp:y<x->p)(hq:¬y<x->q):cnd (!(slt ⟨x.toArray⟩ ⟨y.toArray⟩ || seq ⟨x.toArray⟩ ⟨y.toArray⟩)) p q:=by
 have e1:slt ⟨x.toArray⟩ ⟨y.toArray⟩=decide (x<y):=by unfold slt;rw[gM,gM,blt_eq]
 have e2:seq ⟨x.toArray⟩ ⟨y.toArray⟩=decide (x=y):=by
  unfold seq;rw[gM,gM];by_cases h:x=y
  .rw[decide_eq_true h,h,beq_self_eq_true]
  .rw[decide_eq_false h];exact beq_eq_false_iff_ne.2 h
 rw[e1,e2];rcases pN x y with h|h|h
 .rw[decide_eq_true h];exact hq fun g=>bGo _ (bHr h g)
 .rw[decide_eq_true h,Bool.or_true];exact hq fun g=>by subst h;exact bGo _ g
 .rw[decide_eq_false (fun g=>bGo _ (bHr h g)),decide_eq_false (fun g=>by subst g;exact bGo _ h)];exact hp h
end Go.Vc
namespace Go.Proofs.Y
open Go Go.Vc Go.Dig
def aR6(a b:Int):Int:=if a<b then -1 else if b<a then 1 else 0
def tH(x y:List UInt8):Int:=if x<y then -1 else if y<x then 1 else 0
def aNy(t u:Fac):Int:=if tH t.1 u.1=0 then aR6 t.2 u.2 else tH t.1 u.1
theorem aWf(x y:List UInt8)(i j:Nat):aNy (x,i) (y,j)=if x<y then -1 else if y<x then 1 else if i<j then -1 else if j<i then 1 else 0:=by
 have hI:aR6 (i:Int) (j:Int)=if i<j then -1 else if j<i then 1 else 0:=by
  unfold aR6;by_cases h3:i<j
  .rw[if_pos h3,if_pos Aa]
  .rw[if_neg h3,if_neg Aa];by_cases h4:j<i
   .rw[if_pos h4,if_pos Aa]
   .rw[if_neg h4,if_neg Aa]
 unfold aNy;dsimp only;rw[hI];by_cases h1:x<y
 .have e:tH x y=-1:=if_pos h1;rw[e,if_pos h1,if_neg Ad]
 .by_cases h2:y<x
  .have e:tH x y=1:=(if_neg h1).trans (if_pos h2);rw[e,if_neg h1,if_pos h2,if_neg Ad]
  .have e:tH x y=0:=(if_neg h1).trans (if_neg h2);rw[e,if_neg h1,if_neg h2,if_pos rfl]
theorem aZf(t u:Fac)(a b:Mon):mR (t::a) (u::b)=if aNy t u=0 then mR a b else aNy t u:=by
 obtain⟨x,i⟩:=t;obtain⟨y,j⟩:=u;rw[aNw,aWf];by_cases h1:x<y
 .rw[if_pos h1,if_pos h1,if_neg Ad]
 rw[if_neg h1,if_neg h1];by_cases h2:y<x
 .rw[if_pos h2,if_pos h2,if_neg Ad]
 rw[if_neg h2,if_neg h2];by_cases h3:i<j
 .rw[if_pos h3,if_pos h3,if_neg Ad]
 rw[if_neg h3,if_neg h3];by_cases h4:j<i
 .rw[if_pos h4,if_pos h4,if_neg Ad]
 rw[if_neg h4,if_neg h4,if_pos rfl]
theorem aNz(h:aA)(a:Int):Fn0 T F.q256 [.int .i64 a] h fun v h'=>h'=h/\v=.bool false:=by
 refine f0C ok D.q256 rfl ?_;conv=>whnf
 repeat ((first|apply oI.z|apply cI.z);conv=>whnf)
 skip
 exact RN.a ⟨rfl,congrArg Value.bool (by unfold Vc.eq;rw[decide_eq_true rfl];rfl)⟩
theorem aN0(h:aA)(a:ByteArray):Fn0 T F.q248 [.string a] h fun v h'=>h'=h/\v=.bool false:=by
 refine f0C ok D.q248 rfl ?_;conv=>whnf
 repeat ((first|apply oI.z|apply cI.z);conv=>whnf)
 skip
 exact RN.a ⟨rfl,congrArg Value.bool (by unfold seq;rw[beq_self_eq_true];rfl)⟩
theorem aWg(h:aA)(a b:Int):Fn0 T F.q244 [.int .i64 a,.int .i64 b] h fun v h'=>h'=h/\v=.int .i64 (aR6 a b):=by
 have c1:=aNz;refine f0C ok D.q244 rfl ?_;conv=>whnf
 repeat' ((first|(show CN _ _ _ _ _ _;(refine CN.f rfl (c1 _ _) (fun v h' hl hr=>?_);obtain⟨rfl,rfl⟩:=hr;clear hl))|((first|apply oI.z|apply cI.z))|(apply aB<;>intro _<;>try (exfalso;omega)))<;>conv=>whnf)
 all_goals unfold aR6
 all_goals first
  | exact RN.a ⟨rfl,by rw[if_pos Aa]⟩
  | exact RN.a ⟨rfl,by rw[if_neg Aa,if_pos Aa]⟩
  | exact RN.a ⟨rfl,by rw[if_neg Aa,if_neg Aa]⟩
theorem aWh(h:aA)(x y:List UInt8):Fn0 T F.q231 [.string ⟨x.toArray⟩,.string ⟨y.toArray⟩] h fun v h'=>h'=h/\v=.int .i64 (tH x y):=by
 have c1:=aN0;refine f0C ok D.q231 rfl ?_;conv=>whnf
 repeat' first|((first|(show CN _ _ _ _ _ _;(refine CN.f rfl (c1 _ _) (fun v h' hl hr=>?_);obtain⟨rfl,rfl⟩:=hr;clear hl))|((first|apply oI.z|apply cI.z)))<;>conv=>whnf)|(show cnd _ _ _;first|(refine aV9 (fun hlt=>?_) (fun hlt=>?_)<;>(conv=>whnf))|(refine aWe (fun hgt=>?_) (fun hgt=>?_)<;>(conv=>whnf)))
 all_goals unfold tH
 all_goals first
  | exact RN.a ⟨rfl,by rw[if_pos Ab]⟩
  | exact RN.a ⟨rfl,by rw[if_neg Ab,if_pos Ab]⟩
  | exact RN.a ⟨rfl,by rw[if_neg Ab,if_neg Ab]⟩
end Go.Proofs.Y
/- The program's order of two rows of factors, and of two terms. -/
namespace Go.Proofs.Y
open Go Go.Vc Go.Dig
theorem bB3(h:aA)(s:Sl)(a b:Int)(w:Rw h s 1 [.int .i64 a,.int .i64 b]):Fn0 T F.q243 [s.val] h fun v h'=>v=.int .i64 (if a=0 then b else a):=by
 have hl:=w.len;obtain⟨bk,off,c,T0,fz,h1,h2,h3⟩:=w.mem Ao;have hl2:s.l=2:=by simpa using hl
 have k0:∀L,Has h L ⟨bk,off+0,none⟩ (.int .i64 a):=fun L=>Has.imm h2 (h3 0 (by show 0<2;decide))
 have k1:∀L,Has h L ⟨bk,off+1,none⟩ (.int .i64 b):=fun L=>Has.imm h2 (h3 1 (by show 1<2;decide))
 clear h3 hl;refine f0C ok D.q243 rfl ?_;conv=>whnf
 repeat ((first|apply oI.z|apply cI.z);conv=>whnf)
 skip
 refine LpN.of (fun r ρ hx L=>∃j:Nat,r=2-j/\hx=h/\j<=2/\rd ρ 8=.int .i64 j/\(0<j->a=0)/\(1<j->b=0)) 2 ⟨0,rfl,rfl,Ad,rfl,fun x=>absurd x Ad,fun x=>absurd x Ad⟩ ?_
 conv=>whnf
 repeat intro _
 rename_i r hx L2 hI;obtain⟨j,rfl,rfl,hj,e8,q0,q1⟩:=hI;conv at e8=>lhs;whnf
 subst e8;by_cases hj0:j=0
 .clear q0 q1;conv=>whnf
  repeat' first|((first|(show Idx _ _ _ _ _;refine Idx.one 0 h1 Aa Aa ?_)|(show Ld _ _ _ _;refine Ld.of (k0 _) ?_)|((first|apply oI.z|apply cI.z))|refine WN.i64 Aa Aa ?_)<;>conv=>whnf)|(show cnd _ _ _;first|((first|apply aB|apply aD)<;>intro _<;>first|(exfalso;omega)|conv=>whnf)|(refine aJ ?_))
  .exact⟨rfl,1,Aa,1,rfl,rfl,Ad,vi Aa,fun _=>by omega,fun x=>absurd x Ad⟩
  .refine RN.a ?_;rw[if_neg Aa]
 by_cases hj1:j=1
 .have q0:=q0 Aa;conv=>whnf
  repeat' first|((first|(show Idx _ _ _ _ _;refine Idx.one 1 h1 Aa Aa ?_)|(show Ld _ _ _ _;refine Ld.of (k1 _) ?_)|((first|apply oI.z|apply cI.z))|refine WN.i64 Aa Aa ?_)<;>conv=>whnf)|(show cnd _ _ _;first|((first|apply aB|apply aD)<;>intro _<;>first|(exfalso;omega)|conv=>whnf)|(refine aJ ?_))
  .exact⟨rfl,0,Aa,2,rfl,rfl,Ad,vi Aa,fun _=>q0,fun _=>by omega⟩
  .refine RN.a ?_;rw[if_pos q0]
 .have q0:=q0 Aa;have q1:=q1 Aa;conv=>whnf
  repeat' ((first|((first|apply oI.z|apply cI.z))|(apply aB<;>intro _<;>try (exfalso;omega)))<;>conv=>whnf)
  refine RN.a ?_;rw[if_pos q0,q1]
theorem Rw.two(h:aA)(b:Nat)(x y:Value)(T0:TypeId):Rw (h.put b (.cells [x,y].toArray T0 (0,0))) ⟨some ⟨b,0,none⟩,2,2⟩ 1 [x,y]:=
 ⟨rfl,bDx _,fun _=>⟨b,0,[x,y].toArray,T0,(0,0),rfl,if_pos rfl,fun i _=>by rw[bDu,bD1]⟩⟩
theorem aWi(h:aA)(t u:Fac):Fn0 T F.q242 [.agg (fcv t).toArray,.agg (fcv u).toArray] h fun v h'=>v=.int .i64 (aNy t u):=by
 obtain⟨x,i⟩:=t;obtain⟨y,j⟩:=u;have c1:=aWh;have c2:=aWg;have c3:=bB3;have c4:=Rw.two;refine f0C ok D.q242 rfl ?_;conv=>whnf
 repeat' ((first|(show CN _ _ _ _ _ _;first|(refine CN.f rfl (c1 _ _ _) (fun v h' hl hr=>?_);obtain⟨rfl,rfl⟩:=hr;clear hl)|(refine CN.f rfl (c2 _ _ _) (fun v h' hl hr=>?_);obtain⟨rfl,rfl⟩:=hr;clear hl)|(refine CN.keep 0 rfl rfl (fun hle=>?_);refine CN.f rfl (c3 _ ⟨some ⟨_,0,none⟩,2,2⟩ _ _ (c4 _ _ _ _ _)) (fun v h' hl hr=>?_);subst hr;refine⟨fun _=>aH.keep rfl hle hl,?_⟩))|((first|apply oI.z|apply cI.z))|refine⟨fun _=>aH.o (aA.lr _),?_⟩|refine⟨fun _=>aH.cons _,?_⟩|intro (_:Nat)|(show Ld _ _ _ _;first|refine Ld.o 0 rfl rfl ?_|refine Ld.o 1 rfl rfl ?_)|refine DrN.run Al ?_)<;>conv=>whnf)
 exact RN.a (congrArg (Value.int .i64) rfl)
theorem zX(h:aA)(s1 s2:Sl)(a b:Mon)(w1:Rw h s1 2 (fcs a))(w2:Rw h s2 2 (fcs b))(hb:a.length<=1099511627776):
  Fn0 T F.q241 [s1.val,s2.val,.func (.func F.q242) #[] #[]] h fun v h'=>v=.int .i64 (mR a b):=by
 have hl1:s1.l=a.length:=by have:=w1.len;rw[gQ] at this;omega
 have hl2:s2.l=b.length:=by have:=w2.len;rw[gQ] at this;omega
 have c1:=aWi;obtain⟨R,hR⟩:=AB (mR a b);rw[<-hR];refine f0C ok D.q241 rfl ?_;conv=>whnf
 repeat ((first|apply oI.z|apply cI.z);conv=>whnf)
 skip
 refine LpN.of (fun r ρ hx L=>∃j:Nat,r=a.length-j/\h.le hx/\j<=a.length/\j<=b.length/\rd ρ 13=.int .i64 j/\R=mR (a.drop j) (b.drop j)) a.length
  ⟨0,rfl,aA.lr _,bDw _,bDw _,rfl,hR⟩ ?_
 conv=>whnf
 repeat intro _
 rename_i r hx L2 hI;obtain⟨j,rfl,hle,hj1,hj2,e13,hq⟩:=hI;conv at e13=>lhs;whnf
 subst e13;have w1x:=w1.mono hle;have w2x:=w2.mono hle;by_cases hja:j=a.length
 .rw[bG4 (by omega:a.length<=j)] at hq;by_cases hjb:j=b.length
  .rw[bG4 (by omega:b.length<=j)] at hq;conv=>whnf
   repeat' ((first|((first|apply oI.z|apply cI.z))|(apply aB<;>intro _<;>try (exfalso;omega)))<;>conv=>whnf)
   refine RN.a ?_;rw[hq,aRz]
  .obtain⟨u,hu⟩:∃t,b[j]?=some t:=⟨_,bC8 Aa⟩
   rw[bD6 (by omega:j<b.length)] at hq;conv=>whnf
   repeat' ((first|((first|apply oI.z|apply cI.z))|(apply aB<;>intro _<;>try (exfalso;omega)))<;>conv=>whnf)
   refine RN.a ?_;rw[hq,aZb]
 .obtain⟨t,ht⟩:∃t,a[j]?=some t:=⟨_,bC8 Aa⟩
  have ht':=bC9.1 ht;rw[bD6 (by omega:j<a.length),ht'.2] at hq;by_cases hjb:j=b.length
  .rw[bG4 (by omega:b.length<=j)] at hq;conv=>whnf
   repeat' first|((first|(show Idx _ _ _ _ _;refine Idx.fac w1x j t Aa ht (fun bk off k0 k1=>?_))|(show LdN _ _ _ _ _;refine LdN.two (k0 _) (k1 _) ?_)|((first|apply oI.z|apply cI.z))|intro (_:Nat)|refine Sto.l 0 rfl rfl rfl ?_)<;>conv=>whnf)|(show cnd _ _ _;first|((first|apply aB|apply bI)<;>intro _<;>first|(exfalso;omega)|conv=>whnf))
   refine RN.a ?_;rw[hq,aZc]
  .obtain⟨u,hu⟩:∃t,b[j]?=some t:=⟨_,bC8 Aa⟩
   have hu':=bC9.1 hu;rw[bD6 (by omega:j<b.length),hu'.2,aZf] at hq;have c1:=fun h=>c1 h t u
   obtain⟨C,hC⟩:=AB (aNy t u);rw[<-hC] at c1 hq;obtain⟨x,i⟩:=t;obtain⟨y,k⟩:=u;conv=>whnf
   repeat' first|((first|(show Idx _ _ _ _ _;first|refine Idx.fac w1x j _ Aa ht (fun bk off k0 k1=>?_)|refine Idx.fac w2x j _ Aa hu (fun bk2 off2 k2 k3=>?_))|(show LdN _ _ _ _ _;first|refine LdN.two (k0 _) (k1 _) ?_|refine LdN.two (k2 _) (k3 _) ?_|refine LdN.o 0 rfl rfl ?_|refine LdN.o 1 rfl rfl ?_)|(show CN _ _ _ _ _ _;(refine CN.f rfl (c1 _) (fun v h' hl hr=>?_);subst hr))|((first|apply oI.z|apply cI.z))|intro (_:Nat)|refine WN.i64 Aa Aa ?_|refine Sto.l 0 rfl rfl rfl ?_)<;>conv=>whnf)|(show cnd _ _ _;first|((first|apply aB|apply bI|apply aD)<;>intro _<;>first|(exfalso;omega)|conv=>whnf)|(refine aJ ?_))
   .exact⟨rfl,a.length-(j+1),Aa,j+1,rfl,Ac,Aa,Aa,vi Aa,by rw[hq,if_pos Aa]⟩
   .refine RN.a ?_;rw[hq,if_neg Aa]
theorem zY(h:aA)(s1 s2:Sl)(a b:Mon)(w1:Rw h s1 2 (fcs a))(w2:Rw h s2 2 (fcs b))(hb:a.length<=1099511627776):Fn0 T F.q226 [s1.val,s2.val] h fun v h'=>v=.int .i64 (mR a b):=by
 have c1:=zX;refine f0C ok D.q226 rfl ?_;conv=>whnf
 repeat' ((first|(show CN _ _ _ _ _ _;(refine CN.f rfl (c1 _ s1 s2 _ _ w1 w2 hb) (fun v h' hl hr=>?_);subst hr))|((first|apply oI.z|apply cI.z)))<;>conv=>whnf)
 exact RN.a rfl
structure mV (h:aA) (x:El):Prop where
 rw:Rw h x.f 2 (fcs x.m)
 len:x.m.length<=1099511627776
theorem mV.mono{h h':aA}{x:El}(w:mV h x)(hl:h.le h'):mV h' x:=⟨w.rw.mono hl,w.len⟩
theorem uP(h:aA)(x y:El)(w1:mV h x)(w2:mV h y):Fn0 T F.q225 [.agg x.cells.toArray,.agg y.cells.toArray] h fun v h'=>v=.int .i64 (mR x.m y.m):=by
 have c1:=zY;refine f0C ok D.q225 rfl ?_;conv=>whnf
 repeat' ((first|(show CN _ _ _ _ _ _;(refine CN.f rfl (c1 _ x.f y.f _ _ w1.rw w2.rw w1.len) (fun v h' hl hr=>?_);subst hr))|((first|apply oI.z|apply cI.z))|intro (_:Nat)|(show Ld _ _ _ _;first|refine Ld.o 0 rfl rfl ?_|refine Ld.o 1 rfl rfl ?_))<;>conv=>whnf)
 exact RN.a rfl
end Go.Proofs.Y
/- aEf of terms exchanged and turned about, by the program's library. -/
namespace Go.Proofs.Y
open Go Go.Vc Go.Dig
abbrev cQ (bp:Nat) (zs:List Value) (l:List El):Nat × Obj:=(bp,.cells (fl l++zs).toArray 92 (0,0))
theorem zZ(h:aA)(bp cap N:Nat)(zs:List Value)(cm:Value)(X P Z Q Y:List El)(hPQ:P.length=Q.length)(hN:N=(X++P++Z++Q++Y).length)(hb:N<=1099511627776)(a b n:Int)(ha:a=X.length)(hbb:b=(X.length+P.length+Z.length:Nat))(hn:n=P.length):
  Vc.Fn T F.q272 [.slice (some ⟨bp,0,none⟩) N cap,.int .i64 a,.int .i64 b,.int .i64 n,cm] h [cQ bp zs (X++P++Z++Q++Y)] fun v h' L'=>L'=[cQ bp zs (X++Q++Z++P++Y)]:=by
 simp only[bC6] at hN;refine f1C ok D.q272 rfl ?_;conv=>whnf
 repeat ((first|apply oI.z|apply cI.z);conv=>whnf)
 skip
 refine LpN.of (fun r ρ h1 L=>∃(P1 P2 Q1 Q2:List El),r=P2.length/\h1=h/\L=[cQ bp zs (X++(Q1++P2)++Z++(P1++Q2)++Y)]/\rd ρ 10=.int .i64 (P1.length:Nat)/\P=P1++P2/\Q=Q1++Q2/\P1.length=Q1.length) P.length
  ⟨[],P,[],Q,rfl,rfl,rfl,vi rfl,rfl,rfl,rfl⟩ ?_
 conv=>whnf
 repeat intro _
 rename_i r h1 L1 hI;obtain⟨P1,P2,Q1,Q2,rfl,rfl,rfl,e10,rfl,rfl,hl⟩:=hI;conv at e10=>lhs;whnf
 subst e10;rw[bC6,bC6] at hPQ;rw[bC6] at hn hbb;rw[bC6,bC6] at hN
 match P2,Q2,hPQ,hn,hbb,hN with
 | [],q::Q2,hPQ,_,_,_=>simp at hPQ;omega
 | p::P2,[],hPQ,_,_,_=>simp at hPQ;omega
 | [],[],hPQ,hn,hbb,hN=>
  simp only[bDd,bEh] at hn hbb hN;conv=>whnf
  repeat' ((first|((first|apply oI.z|apply cI.z))|(apply aB<;>intro _<;>try (exfalso;omega)))<;>conv=>whnf)
  refine RN.done ?_;simp only[bDg]
 | p::P2,q::Q2,hPQ,hn,hbb,hN=>
  simp only[bDa] at hPQ hn hbb hN;obtain⟨A,hA⟩:∃A:Nat,A=X.length+P1.length:=⟨_,rfl⟩
  obtain⟨B,hB⟩:∃B:Nat,B=X.length+(P1.length+1+P2.length)+Z.length+P1.length:=⟨_,rfl⟩
  obtain⟨g1,g2,g3⟩:=aR5 X Z Y Q1 P1 P2 Q2 p q hl (a:=X.length) (b:=X.length+(P1.length+1+P2.length)+Z.length) (i:=P1.length) rfl rfl Aa;rw[<-hA] at g1;rw[<-hB] at g2;rw[<-hA,<-hB] at g3;obtain⟨l0,hl0⟩:=AB (X++(Q1++p::P2)++Z++(P1++q::Q2)++Y);have hlen:l0.length=N:=by rw[hl0,hN];simp only[bC6,bDa];omega
  rw[<-hl0] at g1 g2 g3 ⊢;conv=>whnf
  repeat' ((first|(show Idx _ _ _ _ _;first|refine Idx.of A rfl Aa Aa ?_|refine Idx.of B rfl Aa Aa ?_)|(show LdN _ _ _ _ _;first|refine LdN.el 0 rfl g1 ?_|refine LdN.el 0 rfl g2 ?_)|(show Sto _ _ _ _;first|refine Sto.el (x:=q) 0 rfl Aa ?_|(refine Sto.el (x:=p) 0 rfl (by rw[bFu];omega) ?_))|((first|apply oI.z|apply cI.z))|refine⟨fun hst=>(by cases (show true=false from hst)),?_⟩|refine WN.i64 Aa Aa ?_|refine DrN.run Al ?_|(apply aB<;>intro _<;>try (exfalso;omega)))<;>conv=>whnf)
  all_goals exact⟨rfl,P2.length,by simp,P1++[p],P2,Q1++[q],Q2,rfl,rfl,by rw[g3];rfl,vi Ao,by simp,by simp,by simp[hl]⟩
end Go.Proofs.Y
/- The library's insertion sort, at terms. -/
namespace Go.Vc
theorem aGj(A S1 S2 R B:List El)(y e:El){k:Nat}(hk:k=A.length+S1.length):
  (A++(S1++[y])++e::S2++R++B)[k]?=some y/\(A++(S1++[y])++e::S2++R++B)[k+1]?=some e/\
  ((A++(S1++[y])++e::S2++R++B).set (k+1) y).set k e=A++S1++e::(y::S2)++R++B:=by
 have e1:A++(S1++[y])++e::S2++R++B=(A++S1)++y::([]++e::(S2++R++B)):=by simp[bDb]
 have e2:k=(A++S1).length:=by rw[bC6];omega
 rw[e1,e2];refine⟨nJ _ _ _,zW _ _ [] _ _,?_⟩;have:=aR4 (A++S1) y [] e (S2++R++B);rw[bDd,bEh] at this;rw[this];simp[bDb]
theorem aLq{S1 S2:List El}{e:El}(o:dD (S1++S2))(h1:∀y,S1.getLast?=some y->leE y e)(h2:∀y∈S2,leE e y):dD (S1++e::S2):=by
 obtain⟨o1,o2,o3⟩:=List.pairwise_append.1 o;refine List.pairwise_append.2 ⟨o1,List.pairwise_cons.2 ⟨h2,o2⟩,fun x hx z hz=>?_⟩
 rcases bDp.1 hz with rfl|hz
 .have hne:S1≠[]:=fun x0=>by rw[x0] at hx;cases hx
  have hl:=List.getLast?_eq_some_getLast hne;refine xY ?_ (h1 _ hl);rw[<-List.dropLast_concat_getLast hne] at hx o1;rcases bDf.1 hx with hx|hx
  .exact (List.pairwise_append.1 o1).2.2 x hx _ (bDk.2 rfl)
  .rw[bDk.1 hx];exact aGi _
 .exact o3 x hx z hz
theorem aGk{S1 S2 R M:List El}{e:El}(h:(S1++S2++e::R).Perm M):(S1++e::S2++R).Perm M:=by
 refine List.Perm.trans ?_ h;rw[bDb,bDb];exact List.Perm.append_left S1 List.perm_middle.symm
end Go.Vc
namespace Go.Proofs.Y
open Go Go.Vc Go.Dig
theorem aJh(h:aA)(bp cap N:Nat)(zs:List Value)(A M B:List El)(hN:N=(A++M++B).length)(hb:N<=1099511627776)(a b:Int)(ha:a=A.length)(hbb:b=(A.length+M.length:Nat))(fw:∀x∈M,mV h x):
  Vc.Fn T F.q254 [.slice (some ⟨bp,0,none⟩) N cap,.int .i64 a,.int .i64 b,.func (.func F.q225) #[] #[]] h [cQ bp zs (A++M++B)] fun v h' L'=>∃M',dD M'/\M'.Perm M/\L'=[cQ bp zs (A++M'++B)]:=by
 simp only[bC6] at hN
 match M,hN,hbb,fw with
 | [],hN,hbb,fw=>
  simp only[bDd,bEh] at hN hbb;obtain⟨l0,hl0⟩:=AB (A++[]++B);rw[<-hl0];refine f1C ok D.q254 rfl ?_;conv=>whnf
  repeat' ((first|((first|apply oI.z|apply cI.z))|refine WN.i64 Aa Aa ?_)<;>conv=>whnf)
  refine LpN.of (fun r ρ hx L=>L=[cQ bp zs l0]/\∃i:Int,rd ρ 8=.int .i64 i/\i=a+1) 0 ⟨rfl,_,rfl,rfl⟩ ?_
  conv=>whnf
  repeat intro _
  rename_i r hx L2 hI;obtain⟨rfl,i,e8,hi⟩:=hI;conv at e8=>lhs;whnf
  subst e8;conv=>whnf
  repeat' ((first|((first|apply oI.z|apply cI.z))|(apply aB<;>intro _<;>try (exfalso;omega)))<;>conv=>whnf)
  exact RN.done ⟨[],List.Pairwise.nil,List.Perm.refl _,by rw[hl0]⟩
 | x::M1,hN,hbb,fw=>
  obtain⟨M,hM⟩:=AB (x::M1);rw[<-hM] at fw hN hbb ⊢;refine f1C ok D.q254 rfl ?_;conv=>whnf
  repeat' ((first|((first|apply oI.z|apply cI.z))|refine WN.i64 Aa Aa ?_)<;>conv=>whnf)
  refine LpN.of (fun r ρ hx L=>∃S R:List El,r=R.length/\h.le hx/\L=[cQ bp zs (A++S++R++B)]/\rd ρ 8=.int .i64 (A.length+S.length:Nat)/\dD S/\(S++R).Perm M/\0<S.length) M1.length
   ⟨[x],M1,rfl,aA.lr _,by rw[hM];simp,vi (by rw[ha];rfl),List.pairwise_singleton ..,by rw[hM];exact List.Perm.refl _,Nat.succ_pos _⟩ ?_
  conv=>whnf
  repeat intro _
  rename_i r hx L2 hI;obtain⟨S,R,rfl,hle,rfl,e8,hO,hP,hS0⟩:=hI;conv at e8=>lhs;whnf
  subst e8;have hPl:=hP.length_eq;rw[bC6] at hPl
  match R,hP,hPl with
  | [],hP,hPl=>
   rw[bDg] at hP;rw[bDd] at hPl;rw[bDg];obtain⟨l0,hl0⟩:=AB (A++S++B);rw[<-hl0];conv=>whnf
   repeat' ((first|((first|apply oI.z|apply cI.z))|(apply aB<;>intro _<;>try (exfalso;omega)))<;>conv=>whnf)
   exact RN.done ⟨S,hO,hP,by rw[hl0]⟩
  | e::R,hP,hPl=>
   rw[bDa] at hPl;have wf:∀y∈S++e::R,mV h y:=fun y hy=>fw y (hP.mem_iff.1 hy)
   have we:=wf e (bD0 _ (bDe ..));have hl0:A++S++e::R++B=A++S++e::[]++R++B:=by simp
   rw[hl0];have keepS:=fun y hy=>wf y (bDz _ hy)
   conv=>whnf
   repeat' ((first|((first|apply oI.z|apply cI.z))|(apply aB<;>intro _<;>try (exfalso;omega)))<;>conv=>whnf)
   refine LpN.of (fun r ρ h2 L=>∃S1 S2:List El,r=S1.length/\h.le h2/\L=[cQ bp zs (A++S1++e::S2++R++B)]/\rd ρ 9=.int .i64 (A.length+S1.length:Nat)/\S1++S2=S/\∀y∈S2,leE e y) S.length
    ⟨S,[],rfl,hle,rfl,rfl,bDg _,fun y hy=>by cases hy⟩ ?_
   conv=>whnf
   repeat intro _
   rename_i r2 h2 L3 hI2;obtain⟨S1,S2,rfl,hle2,rfl,e9,hSS,hE⟩:=hI2;conv at e9=>lhs;whnf
   subst e9;have hSl:=congrArg List.length hSS;rw[bC6] at hSl;rcases bGk S1 with rfl|⟨S1,y,rfl⟩
   .rw[bDd] at hSl ⊢;obtain⟨l0,hl0⟩:=AB (A++[]++e::S2++R++B);rw[<-hl0];conv=>whnf
    repeat' ((first|((first|apply oI.z|apply cI.z))|refine WN.i64 Aa Aa ?_|refine DrN.run Al ?_|(apply aB<;>intro _<;>try (exfalso;omega)))<;>conv=>whnf)
    exact⟨rfl,R.length,by simp,e::S2,R,rfl,hle2,by rw[hl0];simp,vi (by rw[bDa];omega),aLq (S1:=[]) (by rw[hSS];exact hO) (fun y hy=>by cases hy) hE,aGk (S1:=[]) (by rw[hSS];exact hP),by simp⟩
   .have hy:y∈S:=by rw[<-hSS];simp
    have wy:=(keepS y hy).mono hle2;have wx:=we.mono hle2;have cy:=uP h2 e y wx wy;rw[List.concat_eq_append] at hSS hSl ⊢;rw[bC6] at hSl ⊢;have hl1:([y]:List El).length=1:=rfl;rw[hl1] at hSl ⊢;obtain⟨g1,g2,g3⟩:=aGj A S1 S2 R B y e (k:=A.length+S1.length) rfl;obtain⟨l0,hl0⟩:=AB (A++(S1++[y])++e::S2++R++B);have hlen:l0.length=N:=by rw[hl0,hN];simp only[bC6,bDa,hl1];omega
    rw[<-hl0] at g1 g2 g3 ⊢;obtain⟨C,hC⟩:=AB (mR e.m y.m);rw[<-hC] at cy;obtain⟨K,hK⟩:=AB (A.length+S1.length);rw[<-hK] at g1 g2 g3;conv=>whnf
    repeat' ((first|(show Idx _ _ _ _ _;first|refine Idx.of (K+1) rfl Aa Aa ?_|refine Idx.of K rfl Aa Aa ?_)|(show LdN _ _ _ _ _;first|refine LdN.el 0 rfl g1 ?_|refine LdN.el 0 rfl g2 ?_)|(show CN _ _ _ _ _ _;(refine CN.f rfl cy (fun v h' hl hr=>?_);subst hr))|(show Sto _ _ _ _;first|refine Sto.el (x:=y) 0 rfl Aa ?_|(refine Sto.el (x:=e) 0 rfl (by rw[bFu];omega) ?_))|((first|apply oI.z|apply cI.z))|refine⟨fun _=>aH.o Ab,?_⟩|refine⟨fun hst=>(by cases (show true=false from hst)),?_⟩|refine WN.i64 Aa Aa ?_|refine DrN.run Al ?_|(apply aB<;>intro _<;>try (exfalso;omega)))<;>conv=>whnf)
    .exact⟨rfl,S1.length,Aa,S1,y::S2,rfl,Ac,by rw[g3];rfl,vi Aa,by rw[<-hSS];simp,fun z hz=>by
       rcases bDp.1 hz with rfl|hz
       .exact aEd (lA.1 Aa)
       .exact hE z hz⟩
    .exact⟨rfl,R.length,by simp,S1++[y]++e::S2,R,rfl,Ac,by rw[hl0];simp,vi (by simp only[bC6,bDa,hl1];omega),aLq (by rw[hSS];exact hO) (fun z hz=>by
       rw[List.getLast?_concat] at hz;cases hz;exact fun x=>absurd (lA.2 x) Aa) hE,aGk (by rw[hSS];exact hP),by simp only[bC6,bDa];omega⟩
end Go.Proofs.Y
/- Two neighbouring runs of terms turned about, by the program's library. -/
namespace Go.Proofs.Y
open Go Go.Vc Go.Dig
attribute [local irreducible] Vc.Fn FnP
theorem aN1(h:aA)(bp cap N:Nat)(zs:List Value)(cm:Value)(X P Q Y:List El)(hP:0<P.length)(hQ:0<Q.length)(hN:N=(X++P++Q++Y).length)(hb:N<=1099511627776)(a m b:Int)(ha:a=X.length)(hm:m=(X.length+P.length:Nat))(hbb:b=(X.length+P.length+Q.length:Nat)):
  Vc.Fn T F.q266 [.slice (some ⟨bp,0,none⟩) N cap,.int .i64 a,.int .i64 m,.int .i64 b,cm] h [cQ bp zs (X++P++Q++Y)] fun v h' L'=>L'=[cQ bp zs (X++Q++P++Y)]:=by
 simp only[bC6] at hN;refine f1C ok D.q266 rfl ?_;conv=>whnf
 repeat' ((first|((first|apply oI.z|apply cI.z))|refine WN.i64 Aa Aa ?_)<;>conv=>whnf)
 refine LpN.of (fun r ρ h1 L=>∃(K A B E:List El),r=A.length+B.length/\h.le h1/\L=[cQ bp zs (X++(K++A++B++E)++Y)]/\rd ρ 10=.int .i64 (A.length:Nat)/\rd ρ 11=.int .i64 (B.length:Nat)/\K++B++A++E=Q++P/\K.length+A.length=P.length/\0<A.length/\0<B.length) (P.length+Q.length)
  ⟨[],P,Q,[],rfl,aA.lr _,by simp[bDb],vi Aa,vi Aa,by simp,by simp,hP,hQ⟩ ?_
 conv=>whnf
 repeat intro _
 rename_i r h1 L1 hI;obtain⟨K,A,B,E,rfl,hle,rfl,e10,e11,hT,hKA,hA0,hB0⟩:=hI;conv at e10=>lhs;whnf
 subst e10;conv at e11=>lhs;whnf
 subst e11;have hTl:=congrArg List.length hT;simp only[bC6] at hTl;have fin:∀hx,A.length=B.length->Vc.Fn T F.q272 [.slice (some ⟨bp,0,none⟩) N cap,.int .i64 (m-A.length),.int .i64 m,.int .i64 (A.length:Nat),cm] hx [cQ bp zs (X++(K++A++B++E)++Y)] fun v h' L'=>L'=[cQ bp zs (X++Q++P++Y)]:=fun hx e=>by
  have:=zZ hx bp cap N zs cm (X++K) A [] B (E++Y) e (by simp only[bC6,bDd];omega) hb (m-A.length) m (A.length:Nat) (by rw[bC6];omega) (by simp only[bC6,bDd];omega) rfl;simp only[bDg] at this;have e1:X++(K++A++B++E)++Y=X++K++A++B++(E++Y):=by simp only[bDb]
  have e2:X++Q++P++Y=X++K++B++A++(E++Y):=by
   rw[bDb X,<-hT];simp only[bDb]
  rw[e1,e2];exact this
 have stepL:∀hx,B.length<A.length->Vc.Fn T F.q272 [.slice (some ⟨bp,0,none⟩) N cap,.int .i64 (m-A.length),.int .i64 m,.int .i64 (B.length:Nat),cm] hx [cQ bp zs (X++(K++A++B++E)++Y)] fun v h' L'=>L'=[cQ bp zs (X++((K++B)++A.drop B.length++A.take B.length++E)++Y)]:=fun hx e=>by
  have hs:A=A.take B.length++A.drop B.length:=(bDo ..).symm;have ht:(A.take B.length).length=B.length:=by rw[bDr];omega
  have hd:(A.drop B.length).length=A.length-B.length:=bD3;have:=zZ hx bp cap N zs cm (X++K) (A.take B.length) (A.drop B.length) B (E++Y) ht AA hb (m-A.length) m (B.length:Nat) (by rw[bC6];omega) AA (by rw[ht]);have e1:X++(K++A++B++E)++Y=X++K++A.take B.length++A.drop B.length++B++(E++Y):=by
   conv=>lhs;rw[hs]
   simp only[bDb]
  rw[e1];simp only[bDb] at this ⊢;exact this
 have stepR:∀hx,A.length<B.length->Vc.Fn T F.q272 [.slice (some ⟨bp,0,none⟩) N cap,.int .i64 (m-A.length),.int .i64 (m+B.length-A.length),.int .i64 (A.length:Nat),cm] hx [cQ bp zs (X++(K++A++B++E)++Y)] fun v h' L'=>L'=[cQ bp zs (X++(K++B.drop (B.length-A.length)++B.take (B.length-A.length)++(A++E))++Y)]:=fun hx e=>by
  have hs:B=B.take (B.length-A.length)++B.drop (B.length-A.length):=(bDo ..).symm;have ht:(B.take (B.length-A.length)).length=B.length-A.length:=by rw[bDr];omega
  have hd:(B.drop (B.length-A.length)).length=A.length:=by rw[bD3];omega
  have:=zZ hx bp cap N zs cm (X++K) A (B.take (B.length-A.length)) (B.drop (B.length-A.length)) (E++Y) hd.symm AA hb (m-A.length) (m+B.length-A.length) (A.length:Nat) (by rw[bC6];omega) AA rfl;have e1:X++(K++A++B++E)++Y=X++K++A++B.take (B.length-A.length)++B.drop (B.length-A.length)++(E++Y):=by
   conv=>lhs;rw[hs]
   simp only[bDb]
  rw[e1];simp only[bDb] at this ⊢;exact this
 have lt1:B.length<A.length->(A.take B.length).length=B.length/\(A.drop B.length).length=A.length-B.length:=fun e=>⟨by rw[bDr];omega,bD3⟩
 have lt2:A.length<B.length->(B.take (B.length-A.length)).length=B.length-A.length/\(B.drop (B.length-A.length)).length=A.length:=fun e=>⟨by rw[bDr];omega,by rw[bD3];omega⟩
 have hT1:B.length<A.length->(K++B)++A.take B.length++A.drop B.length++E=Q++P:=fun e=>by rw[<-hT,bDb (K++B),bDo]
 have hT2:A.length<B.length->K++B.take (B.length-A.length)++B.drop (B.length-A.length)++(A++E)=Q++P:=fun e=>by rw[<-hT,bDb K,bDo];simp only[bDb]
 obtain⟨l0,hl0⟩:=AB (X++(K++A++B++E)++Y);rw[<-hl0] at fin stepL stepR ⊢;obtain⟨i,hi⟩:∃i:Nat,i=A.length:=⟨_,rfl⟩
 obtain⟨j,hj⟩:∃j:Nat,j=B.length:=⟨_,rfl⟩
 rw[<-hi] at fin stepL stepR hKA lt1 lt2 hT2 hA0 ⊢;rw[<-hj] at fin stepL stepR lt1 lt2 hT1 hT2 hB0 ⊢;replace lt1:=Hq.mk lt1;replace lt2:=Hq.mk lt2;replace hT1:=Hq.mk hT1;replace hT2:=Hq.mk hT2;conv=>whnf
 repeat' first|((first|(show CN _ _ _ _ _ _;first|refine CN.own 0 rfl rfl (fin _ Aa) (fun v h' La hl hr=>⟨_,hr,?_⟩)|refine CN.own 0 rfl rfl (stepL _ Aa) (fun v h' La hl hr=>⟨_,hr,?_⟩)|refine CN.own 0 rfl rfl (stepR _ Aa) (fun v h' La hl hr=>⟨_,hr,?_⟩))|((first|apply oI.z|apply cI.z))|refine WN.i64 Aa Aa ?_)<;>conv=>whnf)|(show cnd _ _ _;first|((first|apply aB|apply aD)<;>intro _<;>first|(exfalso;omega)|conv=>whnf)|(refine aJ ?_))
 .exact RN.done rfl
 .obtain⟨t1,t2⟩:=lt1.out Aa;exact⟨rfl,i,Aa,K++B,A.drop j,A.take j,E,Aa,Ac,rfl,vi Aa,vi Aa,hT1.out Aa,by rw[bC6];omega,Aa,Aa⟩
 .obtain⟨t1,t2⟩:=lt2.out Aa;exact⟨rfl,j,Aa,K,B.drop (j-i),B.take (j-i),A++E,Aa,Ac,rfl,vi Aa,vi Aa,hT2.out Aa,Aa,Aa,Aa⟩
end Go.Proofs.Y