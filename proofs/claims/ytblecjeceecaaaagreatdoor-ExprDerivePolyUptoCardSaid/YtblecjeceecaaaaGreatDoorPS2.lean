/- Texts as rows of bytes: their order; cells written at a place. -/
import Derived.Test.YtblecjeceecaaaaGreatDoorE4
set_option linter.all false
namespace Go.Vc
open Go Go.Dig
theorem blt_eq:∀x y:List UInt8,Op.bytesLess x y=decide (x<y)
 | [],[]=>by simp[Op.bytesLess]
 | _::_,[]=>by simp[Op.bytesLess]
 | [],_::_=>by simp[Op.bytesLess]
 | a::x,b::y=>by
  simp only[Op.bytesLess,blt_eq x y,List.cons_lt_cons_iff];by_cases h2:a=b
  .by_cases h1:a<b<;>simp[h1,h2]
  .by_cases h1:a<b<;>simp[h1,h2]
theorem iP(x:List UInt8):(⟨x.toArray⟩:ByteArray).toList=x:=by rw[ByteArray.toList_eq]
theorem aGr{x y:List UInt8}{p q:Prop}(hp:x<y->p)(hq:¬x<y->q):cnd (slt ⟨x.toArray⟩ ⟨y.toArray⟩) p q:=by
 unfold slt;rw[iP,iP,blt_eq];by_cases h:x<y
 .rw[decide_eq_true h];exact hp h
 .rw[decide_eq_false h];exact hq h
theorem aMp{x y:List UInt8}{p q:Prop}(hp:x=y->p)(hq:x≠y->q):cnd (seq ⟨x.toArray⟩ ⟨y.toArray⟩) p q:=by
 refine aFl (fun h=>hp ?_) (fun h=>hq fun e=>h (by rw[e]))
 have:=congrArg ByteArray.toList h
 rwa [iP,iP] at this
theorem lE:∀(vs l:List Value) (o:Nat),o+vs.length<=l.length->nB vs l o=l.take o++vs++l.drop (o+vs.length)
 | [],l,o,_=>by simp[nB]
 | v::vs,l,o,h=>by
  rw[bIs] at h;rw[nB,lE vs (l.set o v) (o+1) (by rw[bLl];omega)];rw[List.take_set,List.drop_set_of_lt Aa,bIs,show o+1+vs.length=o+(vs.length+1) by omega]
  have:(List.take (o+1) l).set o v=l.take o++[v]:=by
   rw[bNj,bIq Aa];rw[bJ5 _ _ (by rw[bI9];omega)];simp[bI9,bKu (show o<=l.length by omega)]
  rw[this];simp
end Go.Vc
/- Sums over sorted lists of iX: plain mathematics. -/
namespace Go.Dig
class eI (K:Type) where
 lt:K->K->Prop
 dec:∀a b,Decidable (lt a b)
 irr:∀a,¬lt a a
 tra:∀{a b c},lt a b->lt b c->lt a c
 tri:∀a b,lt a b\/a=b\/lt b a
instance {K:Type} [eI K] (a b:K):Decidable (eI.lt a b):=eI.dec a b
class gY (V:Type) [Add V] [OfNat V 0]:Prop where
 zero_add:∀a:V,0+a=a
 add_zero:∀a:V,a+0=a
 add_comm:∀a b:V,a+b=b+a
 add_assoc:∀a b c:V,a+b+c=a+(b+c)
instance:gY Nat:=⟨bJc,bJz,bL5,bKd⟩
instance:gY Rat:=⟨bMy,bL6,Rat.add_comm,bLy⟩
section
variable {K V:Type} [eI K] [DecidableEq K] [Add V] [OfNat V 0] [gY V] [DecidableEq V]
def cf(l:List (K × V))(k:K):V:=l.foldr (fun t s=>if t.1=k then t.2+s else s) 0
omit [eI K] [gY V] [DecidableEq V] in
theorem pF(k:K):cf ([]:List (K × V)) k=0:=rfl
omit [eI K] [gY V] [DecidableEq V] in
theorem aV(t:K × V)(l:List (K × V))(k:K):cf (t::l) k=if t.1=k then t.2+cf l k else cf l k:=rfl
omit [eI K] [DecidableEq V] in
theorem kE(k:K):∀a b:List (K × V),cf (a++b) k=cf a k+cf b k
 | [],b=>(gY.zero_add _).symm
 | t::a,b=>by
  rw[bJ7,aV,aV,kE k a b]
  split
  .rw[gY.add_assoc]
  .rfl
def iR(k:K)(v:V):List (K × V)->List (K × V)
 | []=>[(k,v)]
 | (n,d)::q=>if eI.lt k n then (k,v)::(n,d)::q else if k=n then (n,v+d)::q else (n,d)::iR k v q
omit [DecidableEq V] in
theorem aU4(k:K)(v:V)(z:K):∀l:List (K × V),cf (iR k v l) z=(if k=z then v else 0)+cf l z
 | []=>by
  unfold iR;rw[aV,pF]
  split
  .rfl
  .rw[gY.add_zero]
 | (n,d)::q=>by
  unfold iR
  split
  .rw[aV]
   split
   .rfl
   .rw[gY.zero_add]
  .split
   .rename_i h;subst h;rw[aV,aV]
    split
    .rw[gY.add_assoc]
    .rw[gY.zero_add]
   .rw[aV,aV,aU4 k v z q]
    split
    .rw[<-gY.add_assoc,<-gY.add_assoc,gY.add_comm d]
    .rfl
abbrev kN (l:List (K × V)):Prop:=l.Pairwise fun s t=>eI.lt s.1 t.1
omit [OfNat V 0] [gY V] [DecidableEq V] in
theorem aOo{k:K}{v:V}{x:K}:∀{l:List (K × V)},(∀t∈l,eI.lt x t.1)->eI.lt x k->∀t∈iR k v l,eI.lt x t.1
 | [],_,hk,t,ht=>by
  unfold iR at ht;rw[bI2] at ht;subst ht;exact hk
 | (n,d)::q,h,hk,t,ht=>by
  unfold iR at ht
  split at ht
  .rcases bI7.1 ht with rfl|ht
   .exact hk
   .exact h t ht
  .split at ht
   .rcases bI7.1 ht with rfl|ht
    .exact h (n,d) (bIw ..)
    .exact h t (bIz _ ht)
   .rcases bI7.1 ht with rfl|ht
    .exact h (n,d) (bIw ..)
    .exact aOo (fun t ht=>h t (bIz _ ht)) hk t ht
omit [OfNat V 0] [gY V] [DecidableEq V] in
theorem aOp{k:K}{v:V}:∀{l:List (K × V)},kN l->kN (iR k v l)
 | [],_=>List.pairwise_cons.2 ⟨fun _ h=>(by simp at h),List.Pairwise.nil⟩
 | (n,d)::q,h=>by
  have h':=List.pairwise_cons.1 h;unfold iR
  split
  .rename_i hlt;refine List.pairwise_cons.2 ⟨fun t ht=>?_,h⟩
   rcases bI7.1 ht with rfl|ht
   .exact hlt
   .exact eI.tra hlt (h'.1 t ht)
  .rename_i hlt
   split
   .exact List.pairwise_cons.2 ⟨h'.1,h'.2⟩
   .rename_i hne;have hnk:eI.lt n k:=by
     rcases eI.tri k n with x|x|x
     .exact absurd x hlt
     .exact absurd x hne
     .exact x
    exact List.pairwise_cons.2 ⟨aOo h'.1 hnk,aOp h'.2⟩
def kP(l:List (K × V)):List (K × V):=l.foldr (fun t q=>iR t.1 t.2 q) []
def bZ(l:List (K × V)):List (K × V):=(kP l).filter fun t=>!decide (t.2=0)
def sX(l:List (K × V)):Prop:=kN l/\∀t∈l,t.2≠0
omit [OfNat V 0] [gY V] [DecidableEq V] in
theorem aAk:∀l:List (K × V),kN (kP l)
 | []=>List.Pairwise.nil
 | _::l=>aOp (aAk l)
omit [DecidableEq V] in
theorem aGs(z:K):∀l:List (K × V),cf (kP l) z=cf l z
 | []=>rfl
 | t::l=>by
  show cf (iR t.1 t.2 (kP l)) z=_
  rw[aU4,aGs z l,aV]
  split
  .rfl
  .rw[gY.zero_add]
omit [eI K] in
theorem mZ(z:K):∀l:List (K × V),cf (l.filter fun t=>!decide (t.2=0)) z=cf l z
 | []=>rfl
 | t::l=>by
  by_cases h:t.2=0
  .rw[bL3 (by simp[h]),mZ z l,aV]
   split
   .rw[h,gY.zero_add]
   .rfl
  .rw[bLv (by simp[h]),aV,aV,mZ z l]
theorem eH(l:List (K × V)):sX (bZ l):=
 ⟨(aAk l).filter _,fun t ht=>by have:=(List.mem_filter.1 ht).2;simpa using this⟩
theorem aGt(l:List (K × V))(z:K):cf (bZ l) z=cf l z:=by unfold bZ;rw[mZ,aGs]
omit [gY V] [DecidableEq V] in
theorem nL{l:List (K × V)}{k:K}(h:∀t∈l,eI.lt k t.1):cf l k=0:=by
 induction l with
 | nil=>rfl
 | cons t l ih=>
  rw[aV,if_neg (fun e=>by subst e;exact eI.irr _ (h t (bIw ..)))]
  exact ih fun u hu=>h u (bIz _ hu)
omit [DecidableEq V] in
theorem sY:∀{l:List (K × V)} {t:K × V},kN l->t∈l->cf l t.1=t.2
 | u::l,t,h,ht=>by
  have h':=List.pairwise_cons.1 h;rcases bI7.1 ht with rfl|ht
  .rw[aV,if_pos rfl,nL h'.1,gY.add_zero]
  .rw[aV,if_neg (fun e=>by have:=h'.1 t ht;rw[e] at this;exact eI.irr _ this)]
   exact sY h'.2 ht
omit [gY V] [DecidableEq V] [eI K] in
theorem yP{l:List (K × V)}{k:K}(h:∀t∈l,t.1≠k):cf l k=0:=by
 induction l with
 | nil=>rfl
 | cons t l ih=>
  rw[aV,if_neg (h t (bIw ..))];exact ih fun u hu=>h u (bIz _ hu)
omit [DecidableEq V] in
theorem mQ:∀{a b:List (K × V)},sX a->sX b->(∀k,cf a k=cf b k)->a=b
 | [],[],_,_,_=>rfl
 | [],t::b,_,hb,h=>by
  have:=h t.1;rw[pF,sY hb.1 (bIw ..)] at this;exact absurd this.symm (hb.2 t (bIw ..))
 | t::a,[],ha,_,h=>by
  have:=h t.1;rw[pF,sY ha.1 (bIw ..)] at this;exact absurd this (ha.2 t (bIw ..))
 | (m,c)::a,(n,d)::b,ha,hb,h=>by
  have ha':=List.pairwise_cons.1 ha.1;have hb':=List.pairwise_cons.1 hb.1;have hmn:m=n:=by
   rcases eI.tri m n with x|x|x
   .have:=h m;rw[sY ha.1 (bIw ..),nL (fun t ht=>by
      rcases bI7.1 ht with rfl|ht
      .exact x
      .exact eI.tra x (hb'.1 t ht))] at this
    exact absurd this (ha.2 _ (bIw ..))
   .exact x
   .have:=h n;rw[sY hb.1 (t:=(n,d)) (bIw ..),nL (fun t ht=>by
      rcases bI7.1 ht with rfl|ht
      .exact x
      .exact eI.tra x (ha'.1 t ht))] at this
    exact absurd this.symm (hb.2 _ (bIw ..))
  subst hmn;have hcd:c=d:=by
   have:=h m
   rwa [sY ha.1 (t:=(m,c)) (bIw ..),sY hb.1 (t:=(m,d)) (bIw ..)] at this
  subst hcd;refine congrArg _ (mQ ⟨ha'.2,fun t ht=>ha.2 t (bIz _ ht)⟩ ⟨hb'.2,fun t ht=>hb.2 t (bIz _ ht)⟩ fun k=>?_)
  by_cases e:m=k
  .subst e;rw[nL ha'.1,nL hb'.1]
  .have:=h k
   rwa [aV,aV,if_neg e,if_neg e] at this
theorem aU5{a:List (K × V)}(h:sX a):bZ a=a:=mQ (eH a) h fun k=>aGt a k
end
def sm{K:Type}(f:K->Rat)(l:List (K × Rat)):Rat:=l.foldr (fun t s=>t.2*f t.1+s) 0
section
variable {K:Type} (f g:K->Rat)
theorem dQ(t:K × Rat)(l:List (K × Rat)):sm f (t::l)=t.2*f t.1+sm f l:=rfl
theorem aMq:∀a b:List (K × Rat),sm f (a++b)=sm f a+sm f b
 | [],b=>(bMy _).symm
 | t::a,b=>by rw[bJ7,dQ,dQ,aMq a b,bLy]
theorem jS{f g:K->Rat}{l:List (K × Rat)}(h:∀t∈l,f t.1=g t.1):sm f l=sm g l:=by
 induction l with
 | nil=>rfl
 | cons t l ih=>rw[dQ,dQ,h t (bIw ..),ih fun u hu=>h u (bIz _ hu)]
theorem aU6(l:List (K × Rat)):sm (fun k=>f k+g k) l=sm f l+sm g l:=by
 induction l with
 | nil=>exact (bL6 _).symm
 | cons t l ih=>rw[dQ,dQ,dQ,ih,Rat.mul_add,bLy,bLy,<-bLy (sm f l),Rat.add_comm (sm f l) (t.2*g t.1),bLy]
theorem aB3(c:Rat)(l:List (K × Rat)):sm (fun k=>c*f k) l=c*sm f l:=by
 induction l with
 | nil=>exact (bNd _).symm
 | cons t l ih=>rw[dQ,dQ,ih,Rat.mul_add,<-bLc,bMz t.2 c,bLc]
theorem bAi(l:List (K × Rat)):sm (fun _=>0) l=0:=by
 induction l with
 | nil=>rfl
 | cons t l ih=>rw[dQ,ih,bNd,bL6]
theorem aOq{L:Type}(f:K->L->Rat)(b:List (L × Rat)):∀a:List (K × Rat),sm (fun x=>sm (f x) b) a=sm (fun y=>sm (fun x=>f x y) a) b
 | []=>(bAi b).symm
 | t::a=>by
  rw[dQ,aOq f b a];have e:(fun y=>sm (fun x=>f x y) (t::a))=fun y=>t.2*f t.1 y+sm (fun x=>f x y) a:=rfl
  rw[e,aU6,aB3]
variable [eI K] [DecidableEq K]
omit [eI K] in
theorem aMr(k:K):∀l:List (K × Rat),sm (fun x=>if x=k then 1 else 0) l=cf l k
 | []=>rfl
 | t::l=>by
  rw[dQ,aV,aMr k l]
  split
  .rw[bK5]
  .rw[bNd,bMy]
theorem aU7(k:K)(v:Rat):∀l:List (K × Rat),sm f (iR k v l)=v*f k+sm f l
 | []=>rfl
 | (n,d)::q=>by
  unfold iR
  split
  .rfl
  .split
   .rename_i h;subst h;rw[dQ,dQ,Rat.add_mul,bLy]
   .rw[dQ,dQ,aU7 k v q,<-bLy,<-bLy,Rat.add_comm (d*f n)]
theorem dW(l:List (K × Rat)):sm f (bZ l)=sm f l:=by
 have h1:∀q:List (K × Rat),sm f (q.filter fun t=>!decide (t.2=0))=sm f q:=fun q=>by
  induction q with
  | nil=>rfl
  | cons t q ih=>
   by_cases h:t.2=0
   .rw[bL3 (by simp[h]),ih,dQ,h,Rat.zero_mul,bMy]
   .rw[bLv (by simp[h]),dQ,dQ,ih]
 unfold bZ;rw[h1]
 induction l with
 | nil=>rfl
 | cons t l ih=>
  show sm f (iR t.1 t.2 (kP l))=_
  rw[aU7,ih];rfl
theorem aU8{a b:List (K × Rat)}(ha:sX a)(hb:sX b)(h:∀f:K->Rat,sm f a=sm f b):a=b:=
 mQ ha hb fun k=>by rw[<-aMr,<-aMr];exact h _
end
end Go.Dig
/- Products of atoms with exponents, names against their inverses: plain mathematics. -/
namespace Go.Dig
theorem oS(a b:List UInt8):a<b\/a=b\/b<a:=by
 by_cases h:a<b
 .exact .inl h
 .by_cases h':b<a
  .exact .inr (.inr h')
  .exact .inr (.inl (List.le_antisymm (List.not_lt.1 h') (List.not_lt.1 h)))
instance:eI (List UInt8):=⟨fun a b=>a<b,fun _ _=>inferInstance,fun a=>bMh a,fun h k=>bMo h k,oS⟩
abbrev Fac:Type:=List UInt8 × Nat
abbrev Mon:Type:=List Fac
def ltF:Mon->Mon->Prop
 | [],[]=>False
 | [],_::_=>True
 | _::_,[]=>False
 | (x,i)::a,(y,j)::b=>x<y\/x=y/\(i<j\/i=j/\ltF a b)
def aU9:(a b:Mon)->Decidable (ltF a b)
 | [],[]=>by unfold ltF;exact inferInstance
 | [],_::_=>by unfold ltF;exact inferInstance
 | _::_,[]=>by unfold ltF;exact inferInstance
 | (x,i)::a,(y,j)::b=>by
  unfold ltF;have:=aU9 a b;exact inferInstance
theorem aOr:∀a:Mon,¬ltF a a
 | []=>id
 | (x,i)::a=>by
  unfold ltF
  rintro (h|⟨-,h|⟨-,h⟩⟩)
  .exact bMh _ h
  .exact Nat.lt_irrefl _ h
  .exact aOr a h
theorem aOs:∀{a b c:Mon},ltF a b->ltF b c->ltF a c
 | [],[],_,h,_=>h.elim
 | [],_::_,[],_,h=>h.elim
 | [],_::_,_::_,_,_=>trivial
 | _::_,[],_,h,_=>h.elim
 | _::_,_::_,[],_,h=>h.elim
 | (x,i)::a,(y,j)::b,(z,k)::c,h,g=>by
  unfold ltF at h g ⊢;rcases h with h|⟨rfl,h⟩
  .rcases g with g|⟨rfl,-⟩
   .exact .inl (bMo h g)
   .exact .inl h
  .rcases g with g|⟨rfl,g⟩
   .exact .inl g
   .refine .inr ⟨rfl,?_⟩;rcases h with h|⟨rfl,h⟩
    .rcases g with g|⟨rfl,-⟩
     .exact .inl (bNm h g)
     .exact .inl h
    .rcases g with g|⟨rfl,g⟩
     .exact .inl g
     .exact .inr ⟨rfl,aOs h g⟩
theorem aOt:∀a b:Mon,ltF a b\/a=b\/ltF b a
 | [],[]=>.inr (.inl rfl)
 | [],_::_=>.inl trivial
 | _::_,[]=>.inr (.inr trivial)
 | (x,i)::a,(y,j)::b=>by
  unfold ltF;rcases oS x y with h|rfl|h
  .exact .inl (.inl h)
  .rcases Nat.lt_trichotomy i j with h|rfl|h
   .exact .inl (.inr ⟨rfl,.inl h⟩)
   .rcases aOt a b with h|rfl|h
    .exact .inl (.inr ⟨rfl,.inr ⟨rfl,h⟩⟩)
    .exact .inr (.inl rfl)
    .exact .inr (.inr (.inr ⟨rfl,.inr ⟨rfl,h⟩⟩))
   .exact .inr (.inr (.inr ⟨rfl,.inl h⟩))
  .exact .inr (.inr (.inl h))
instance:eI Mon:=⟨ltF,aU9,aOr,fun h k=>aOs h k,aOt⟩
def nmA(s:List UInt8):Prop:=fD (s.map UInt8.toNat)
instance (s:List UInt8):Decidable (nmA s):=by unfold nmA;exact inferInstance
def eR:List UInt8:=[49,32,47,32]
def inv(s:List UInt8):Option (List UInt8):=if nmA s then some (eR++s) else if 4<s.length/\s.take 4=eR/\nmA (s.drop 4) then some (s.drop 4) else none
theorem aGu(s:List UInt8):¬nmA (eR++s):=fun h=>by
 have h2:=h.2.1;have:eB ((eR++s).map UInt8.toNat)=0:=rfl;rw[this] at h2;simp[eR] at h2
theorem bAj{s:List UInt8}(h:nmA s):0<s.length:=by
 have:=h.2.2.1;cases s with
 | nil=>exact absurd rfl this
 | cons _ _=>exact Nat.succ_pos _
theorem aAl{s u:List UInt8}(h:inv s=some u):inv u=some s:=by
 unfold inv at h
 split at h
 .rename_i hn;cases h;have hp:=bAj hn;unfold inv;rw[if_neg (aGu s),if_pos ⟨by simp[eR];omega,rfl,hn⟩];rfl
 .split at h
  .rename_i hn;cases h;unfold inv;rw[if_pos hn.2.2,<-hn.2.1,bI6]
  .cases h
def rv(l:Mon)(s:List UInt8):Nat:=match inv s with
 | some u=>cf l u
 | none=>0
def jn(a b:Mon):Mon:=bZ ((kP (a++b)).map fun t=>(t.1,t.2-min t.2 (rv (a++b) t.1)))
theorem aVa{q:Mon}(g:List UInt8->Nat->Nat)(hg:∀s,g s 0=0)(h:kN q)(s:List UInt8):cf (q.map fun t=>(t.1,g t.1 t.2)) s=g s (cf q s):=by
 induction q with
 | nil=>exact (hg s).symm
 | cons t q ih=>
  have h':=List.pairwise_cons.1 h;rw[bJw,aV,aV,ih h'.2]
  split
  .rename_i e;subst e;rw[nL h'.1,hg];rfl
  .rfl
theorem sZ(a b:Mon)(s:List UInt8):cf (jn a b) s=cf a s+cf b s-min (cf a s+cf b s) (rv (a++b) s):=by
 unfold jn;rw[aGt,aVa (fun s n=>n-min n (rv (a++b) s)) (fun s=>Nat.zero_sub _) (aAk _),aGs,kE]
theorem pG(a b:Mon)(s:List UInt8):rv (a++b) s=rv a s+rv b s:=by
 unfold rv;cases inv s with
 | none=>rfl
 | some u=>exact kE u a b
theorem nM(a b:Mon):sX (jn a b):=eH _
theorem bAk(a b:Mon):jn a b=jn b a:=mQ (nM a b) (nM b a) fun s=>by
 rw[sZ,sZ,pG,pG,bL5 (cf a s),bL5 (rv a s)]
theorem aVb(a b:Mon)(s:List UInt8):rv (jn a b) s=rv a s+rv b s-min (rv a s+rv b s) (cf a s+cf b s)\/inv s=none:=by
 cases h:inv s with
 | none=>exact .inr rfl
 | some u=>
  left
  have e:∀m:Mon,rv m s=cf m u:=fun m=>by unfold rv;rw[h]
  have e':∀m:Mon,rv m u=cf m s:=fun m=>by unfold rv;rw[aAl h]
  rw[e,e,e,sZ,pG,e',e']
theorem iW{s:List UInt8}(h:inv s=none)(m:Mon):rv m s=0:=by unfold rv;rw[h]
theorem aVc(a b c:Mon):jn (jn a b) c=jn a (jn b c):=mQ (nM _ _) (nM _ _) fun s=>by
 rw[sZ,sZ,pG,pG,sZ,sZ,pG,pG];rcases aVb a b s with h1|h1
 .rcases aVb b c s with h2|h2
  .rw[h1,h2];omega
  .rw[iW h2,iW h2,iW h2,iW h2];have:=h1;rw[iW h2,iW h2,iW h2] at this;rw[iW h2];omega
 .rw[iW h1,iW h1,iW h1,iW h1,iW h1];omega
def aB4(m:Mon):Prop:=sX m/\∀s,cf m s=0\/rv m s=0
theorem bDc(a b:Mon):aB4 (jn a b):=⟨nM a b,fun s=>by
  rw[sZ,pG];rcases aVb a b s with h|h
  .rw[h];omega
  .exact .inr (iW h _)⟩
theorem aGv:aB4 []:=⟨⟨List.Pairwise.nil,fun _ h=>(by simp at h)⟩,fun _=>.inl rfl⟩
theorem bAl(s:List UInt8):aB4 [(s,1)]:=by
 refine⟨⟨List.pairwise_cons.2 ⟨fun _ h=>(by simp at h),List.Pairwise.nil⟩,fun t h=>by rw[bI2] at h;subst h;exact Nat.one_ne_zero⟩,fun z=>?_⟩
 by_cases e:s=z
 .subst e
  right
  unfold rv;cases h:inv s with
  | none=>rfl
  | some u=>
   show cf [(s,1)] u=0
   have hne:s≠u:=fun e=>?_
   .rw[aV,if_neg hne];rfl
   subst e;unfold inv at h
   split at h
   .have:=congrArg List.length (Option.some.inj h);simp[eR] at this;omega
   .split at h
    .rename_i hn;have:=congrArg List.length (Option.some.inj h);rw[bJl] at this;omega
    .cases h
 .left
  rw[aV,if_neg e];rfl
theorem jn_nil{m:Mon}(h:aB4 m):jn [] m=m:=mQ (nM _ _) h.1 fun s=>by
 rw[sZ,pG];have h0:rv [] s=0:=by unfold rv;cases inv s<;>rfl
 rw[h0,show cf ([]:Mon) s=0 from rfl];rcases h.2 s with x|x<;>rw[x]<;>omega
end Go.Dig
/- Products as the document forms them: two rows laid together, then names against their inverses; orders of monomials as numbers: plain mathematics. -/
namespace Go.Dig
theorem aAm{s u:List UInt8}:inv s=some u↔(nmA s/\u=eR++s)\/(nmA u/\s=eR++u):=by
 constructor
 .intro h;unfold inv at h
  split at h
  .rename_i hn;cases h;exact .inl ⟨hn,rfl⟩
  .split at h
   .rename_i hn;cases h;exact .inr ⟨hn.2.2,by rw[<-hn.2.1,bI6]⟩
   .cases h
 .rintro (⟨hn,rfl⟩|⟨hn,rfl⟩)
  .unfold inv;rw[if_pos hn]
  .exact aAl (by unfold inv;rw[if_pos hn])
def mgM:Mon->Mon->Mon
 | [],b=>b
 | t::a,[]=>t::a
 | (x,i)::a,(y,j)::b=>if x<y then (x,i)::mgM a ((y,j)::b) else if y<x then (y,j)::mgM ((x,i)::a) b else (x,i+j)::mgM a b
termination_by a b=>a.length+b.length
def cnM(l:Mon):Mon:=(l.map fun t=>(t.1,t.2-min t.2 (rv l t.1))).filter fun t=>!decide (t.2=0)
def jM(a b:Mon):Int:=if eI.lt a b then -1 else if a=b then 0 else 1
theorem aJf:jM [] []=0:=rfl
theorem aVd(t:Fac)(b:Mon):jM [] (t::b)=-1:=if_pos trivial
theorem aVe(t:Fac)(a:Mon):jM (t::a) []=1:=by
 unfold jM;rw[if_neg (show ¬eI.lt (K:=Mon) (t::a) [] from fun h=>h),if_neg Aq]
theorem aEj(x y:List UInt8)(i j:Nat)(a b:Mon):jM ((x,i)::a) ((y,j)::b)=if x<y then -1 else if y<x then 1 else if i<j then -1 else if j<i then 1 else jM a b:=by
 have hd:eI.lt (K:=Mon) ((x,i)::a) ((y,j)::b)↔(x<y\/x=y/\(i<j\/i=j/\ltF a b)):=Iff.rfl;unfold jM;by_cases h1:x<y
 .rw[if_pos (hd.2 (.inl h1)),if_pos h1]
 .rw[if_neg h1];by_cases h2:y<x
  .have hne:x≠y:=fun e=>by subst e;exact bMh _ h2
   rw[if_pos h2,if_neg (fun h=>(hd.1 h).elim h1 fun g=>hne g.1),if_neg (fun e=>hne (by injection e with e;injection e))]
  .rw[if_neg h2];obtain rfl:x=y:=by
    rcases oS x y with h|h|h
    .exact absurd h h1
    .exact h
    .exact absurd h h2
   by_cases h3:i<j
   .rw[if_pos (hd.2 (.inr ⟨rfl,.inl h3⟩)),if_pos h3]
   .rw[if_neg h3];by_cases h4:j<i
    .rw[if_pos h4,if_neg (fun h=>(hd.1 h).elim h1 fun g=>g.2.elim h3 fun g=>by omega),if_neg (fun e=>by injection e with e;injection e with _ e;omega)]
    .rw[if_neg h4];obtain rfl:i=j:=Aa;have e1:eI.lt (K:=Mon) ((x,i)::a) ((x,i)::b)↔eI.lt a b:=⟨fun h=>(hd.1 h).elim (fun g=>absurd g h1) fun g=>g.2.elim (fun g=>absurd g h3) fun g=>g.2,fun h=>hd.2 (.inr ⟨rfl,.inr ⟨rfl,h⟩⟩)⟩
     by_cases h5:eI.lt a b
     .rw[if_pos (e1.2 h5),if_pos h5]
     .rw[if_neg (fun h=>h5 (e1.1 h)),if_neg h5]
      by_cases h6:a=b
      .rw[if_pos (by rw[h6]),if_pos h6]
      .rw[if_neg (fun e=>h6 (by injection e)),if_neg h6]
theorem jT{a b:Mon}:jM a b<0↔eI.lt a b:=by
 unfold jM
 split
 .rename_i h;exact⟨fun _=>h,fun _=>by decide⟩
 .rename_i h
  split<;>exact⟨fun x=>absurd x Ae,fun x=>absurd x h⟩
theorem lP{a b:Mon}:jM a b=0↔a=b:=by
 unfold jM
 split
 .rename_i h;exact⟨fun x=>absurd x Ae,fun e=>by subst e;exact absurd h (eI.irr _)⟩
 .split
  .rename_i h;exact⟨fun _=>h,fun _=>rfl⟩
  .rename_i h;exact⟨fun x=>absurd x Ae,fun x=>absurd x h⟩
end Go.Dig
/- Lists in order, put together; like terms added up: plain mathematics. -/
namespace Go.Dig
section
variable {K V:Type} [eI K] [DecidableEq K] [Add V] [OfNat V 0] [gY V] [DecidableEq V]
def leK(s t:K × V):Prop:=¬eI.lt t.1 s.1
abbrev aJg (l:List (K × V)):Prop:=l.Pairwise leK
omit [DecidableEq K] [Add V] [OfNat V 0] [gY V] [DecidableEq V] in
theorem xA{a b c:K × V}(h:leK a b)(g:leK b c):leK a c:=fun x=>by
 rcases eI.tri a.1 b.1 with y|y|y
 .exact g (eI.tra x y)
 .exact g (by rw[<-y];exact x)
 .exact h y
omit [DecidableEq K] [Add V] [OfNat V 0] [gY V] [DecidableEq V] in
theorem aVf{a1 a2 b1 b2:List (K × V)}(ha:aJg (a1++a2))(hb:aJg (b1++b2))
  (h1:∀x y,a1.getLast?=some x->b2.head?=some y->leK x y) (h2:∀x y,b1.getLast?=some x->a2.head?=some y->leK x y):
  ∀x∈a1++b1,∀y∈a2++b2,leK x y:=by
 have ha':=List.pairwise_append.1 ha;have hb':=List.pairwise_append.1 hb;have top:∀{l:List (K × V)} {x:K × V},aJg l->x∈l->∃z,l.getLast?=some z/\(leK x z):=by
  intro l x hl hx;obtain⟨z,hz⟩:∃z,l.getLast?=some z:=by
   cases h:l.getLast? with
   | none=>rw[List.getLast?_eq_none_iff] at h;subst h;simp at hx
   | some z=>exact⟨z,rfl⟩
  refine⟨z,hz,?_⟩;obtain⟨r,rfl⟩:=List.getLast?_eq_some_iff.1 hz;rcases bIx.1 hx with hx|hx
  .exact (List.pairwise_append.1 hl).2.2 x hx z (bI2.2 rfl)
  .rw[bI2] at hx;subst hx;exact eI.irr _
 have bot:∀{l:List (K × V)} {x:K × V},aJg l->x∈l->∃z,l.head?=some z/\(leK z x):=by
  intro l x hl hx;cases l with
  | nil=>simp at hx
  | cons z l=>
   refine⟨z,rfl,?_⟩;rcases bI7.1 hx with rfl|hx
   .exact eI.irr _
   .exact (List.pairwise_cons.1 hl).1 x hx
 intro x hx y hy;rcases bIx.1 hx with hx|hx
 .rcases bIx.1 hy with hy|hy
  .exact ha'.2.2 x hx y hy
  .obtain⟨z,hz,e1⟩:=top ha'.1 hx;obtain⟨u,hu,e2⟩:=bot hb'.2.1 hy;exact xA (xA e1 (h1 z u hz hu)) e2
 .rcases bIx.1 hy with hy|hy
  .obtain⟨z,hz,e1⟩:=top hb'.1 hx;obtain⟨u,hu,e2⟩:=bot ha'.2.1 hy;exact xA (xA e1 (h2 z u hz hu)) e2
  .exact hb'.2.2 x hx y hy
omit [eI K] [DecidableEq V] in
theorem aOu{a b:List (K × V)}(h:a.Perm b)(k:K):cf a k=cf b k:=by
 induction h with
 | nil=>rfl
 | cons x _ ih=>rw[aV,aV,ih]
 | swap x y l=>
  rw[aV,aV,aV,aV]
  split<;>split
  .rw[<-gY.add_assoc,<-gY.add_assoc,gY.add_comm y.2]
  all_goals rfl
 | trans _ _ h1 h2=>exact h1.trans h2
def grS(out:List (K × V))(t:K × V):List (K × V):=match out.getLast? with
 | some u=>if u.1=t.1 then out.dropLast++[(u.1,u.2+t.2)] else out++[t]
 | none=>out++[t]
omit [eI K] [DecidableEq V] in
theorem bFy(out:List (K × V))(t:K × V)(z:K):cf (grS out t) z=cf out z+cf [t] z:=by
 unfold grS;cases h:out.getLast? with
 | none=>exact kE z _ _
 | some u=>
  obtain⟨r,rfl⟩:=List.getLast?_eq_some_iff.1 h;show cf (if u.1=t.1 then _ else _) z=_
  split
  .rename_i e;rw[List.dropLast_concat,kE,kE,gY.add_assoc]
   congr 1
   rw[aV,aV,aV,<-e,pF];show (if u.1=z then _ else _)=_
   split
   .rw[gY.add_zero,gY.add_zero,gY.add_zero]
   .rw[gY.add_zero]
  .exact kE z _ _
omit [OfNat V 0] [gY V] [DecidableEq V] in
theorem bDd{out:List (K × V)}{t:K × V}(h:kN out)(ht:∀u∈out,leK u t):kN (grS out t)/\∀v,(∀u∈out,leK u v)->leK t v->∀u∈grS out t,leK u v:=by
 unfold grS;cases hl:out.getLast? with
 | none=>
  rw[List.getLast?_eq_none_iff] at hl;subst hl;exact⟨List.pairwise_cons.2 ⟨fun _ x=>(by simp at x),List.Pairwise.nil⟩,fun v _ h2 u hu=>by rw[bKc,bI2] at hu;subst hu;exact h2⟩
 | some x=>
  obtain⟨r,rfl⟩:=List.getLast?_eq_some_iff.1 hl;have h':=List.pairwise_append.1 h;show kN (if x.1=t.1 then _ else _)/\_
  split
  .rename_i e;rw[List.dropLast_concat];refine⟨List.pairwise_append.2 ⟨h'.1,List.pairwise_cons.2 ⟨fun _ x=>(by simp at x),List.Pairwise.nil⟩,fun a ha b hb=>?_⟩,fun v h1 _ u hu=>?_⟩
   .rw[bI2] at hb;subst hb;exact h'.2.2 a ha x (bI2.2 rfl)
   .have hu:u∈(if x.1=t.1 then r++[(x.1,x.2+t.2)] else r++[x]++[t]):=hu
    rw[if_pos e] at hu;rcases bIx.1 hu with hu|hu
    .exact h1 u (bJh _ hu)
    .rw[bI2] at hu;subst hu;exact h1 x (bJi _ (bI2.2 rfl))
  .rename_i e;refine⟨List.pairwise_append.2 ⟨h,List.pairwise_cons.2 ⟨fun _ x=>(by simp at x),List.Pairwise.nil⟩,fun a ha b hb=>?_⟩,fun v h1 h2 u hu=>?_⟩
   .rw[bI2] at hb;subst hb;have hxt:eI.lt x.1 b.1:=by
     rcases eI.tri x.1 b.1 with y|y|y
     .exact y
     .exact absurd y e
     .exact absurd y (ht x (bJi _ (bI2.2 rfl)))
    rcases bIx.1 ha with ha|ha
    .exact eI.tra (h'.2.2 a ha x (bI2.2 rfl)) hxt
    .rw[bI2] at ha;subst ha;exact hxt
   .have hu:u∈(if x.1=t.1 then (r++[x]).dropLast++[(x.1,x.2+t.2)] else r++[x]++[t]):=hu
    rw[if_neg e] at hu;rcases bIx.1 hu with hu|hu
    .exact h1 u hu
    .rw[bI2] at hu;subst hu;exact h2
theorem aOv:∀(l out:List (K × V)),kN out->aJg l->(∀u∈out,∀t∈l,leK u t)->kN (l.foldl grS out)/\∀z,cf (l.foldl grS out) z=cf out z+cf l z
 | [],out,h,_,_=>⟨h,fun z=>(gY.add_zero _).symm⟩
 | t::l,out,h,hl,ho=>by
  have hl':=List.pairwise_cons.1 hl;obtain⟨g1,g2⟩:=bDd h fun u hu=>ho u hu t (bIw ..)
  obtain⟨r1,r2⟩:=aOv l (grS out t) g1 hl'.2 fun u hu v hv=>g2 v (fun w hw=>ho w hw v (bIz _ hv)) (hl'.1 v hv) u hu
  refine⟨r1,fun z=>?_⟩
  rw[List.foldl_cons,r2,bFy,gY.add_assoc]
  congr 1
  rw[<-kE];rfl
theorem aOw{l l':List (K × V)}(hp:l'.Perm l)(ho:aJg l'):(l'.foldl grS []).filter (fun t=>!decide (t.2=0))=bZ l:=by
 obtain⟨h1,h2⟩:=aOv l' [] List.Pairwise.nil ho (fun u hu=>by simp at hu)
 refine mQ ⟨h1.filter _,fun t ht=>?_⟩ (eH l) fun k=>?_
 .have:=(List.mem_filter.1 ht).2
  simpa using this
 .rw[mZ,h2,aGt,pF,gY.zero_add,aOu hp]
end
end Go.Dig
/- Rows of terms in own memory: an element read, an element written. -/
namespace Go.Vc
open Go Go.Dig
structure El where
 neg:Bool
 n:Sl
 d:Sl
 f:Sl
 m:Mon
 q:Rat
def El.cells(x:El):List Value:=[.bool x.neg,.slice x.n.a x.n.l x.n.c,.slice x.d.a x.d.l x.d.c,.slice x.f.a x.f.l x.f.c]
def fl(l:List El):List Value:=l.flatMap El.cells
theorem El.cells_len(x:El):x.cells.length=4:=rfl
theorem bK:∀l:List El,(fl l).length=l.length*4
 | []=>rfl
 | x::l=>by
  show (x.cells++fl l).length=_
  rw[bIo,bK l,x.cells_len,bIs];omega
theorem aGx(a b:List El):fl (a++b)=fl a++fl b:=bNb
theorem aGy{l:List El}{i:Nat}{x:El}(h:l[i]?=some x)(k:Nat)(hk:k<4):(fl l)[i*4+k]?=x.cells[k]?:=by
 induction l generalizing i with
 | nil=>simp at h
 | cons y l ih=>
  show (y.cells++fl l)[i*4+k]?=_
  cases i with
  | zero=>
   simp at h;subst h;rw[bKi,bJc,bI0 (by rw[y.cells_len];exact hk)]
  | succ i=>
   rw[bJa (by rw[y.cells_len];omega),y.cells_len,show (i+1)*4+k-4=i*4+k by omega]
   exact ih (by simpa using h)
theorem aVg:∀{l:List El} {i:Nat} (x:El),i<l.length->nB x.cells (fl l) (i*4)=fl (l.set i x)
 | y::l,0,x,_=>by
  rw[lE _ _ _ (by rw[bK,x.cells_len,bIs];omega)];show List.take (0*4) (fl (y::l))++x.cells++List.drop (0*4+4) (y.cells++fl l)=x.cells++fl l;rw[bKi,bKq,bKc,bJc,bMq (by rw[y.cells_len];exact bJf _),bK1 (by rw[y.cells_len];exact bJf _),bKc]
 | y::l,i+1,x,h=>by
  have ih:=aVg (l:=l) (i:=i) x (by simpa using h);have hlen:i*4+x.cells.length<=(fl l).length:=by rw[bK,x.cells_len];have:i<l.length:=(by simpa using h);omega
  rw[lE _ _ _ hlen] at ih;rw[lE _ _ _ (by rw[bK,x.cells_len,bIs];have:i<l.length:=(by simpa using h);omega)]
  show List.take ((i+1)*4) (y.cells++fl l)++x.cells++List.drop ((i+1)*4+x.cells.length) (y.cells++fl l)=y.cells++fl (l.set i x)
  rw[<-ih,show (i+1)*4=y.cells.length+i*4 by rw[y.cells_len];omega,List.take_length_add_append,bKd,List.drop_length_add_append,bIt,bIt,bIt]
theorem LdN.el{h:aA}{L:Own}{bp:Nat}{l:List El}{zs:List Value}{i:Nat}{x:El}{T:TypeId}{fz:Nat × Nat}{k:Value->Prop}(n:Nat)(hb:L[n]?=some (bp,.cells (fl l++zs).toArray T fz))(hx:l[i]?=some x)(hk:k (.agg x.cells.toArray)):LdN h L ⟨bp,0+i*4,none⟩ 4 k:=
 ⟨x.cells,rfl,fun j hj=>by
   rw[bQ,bJc];refine Has.own n hb ?_;have hj4:j<4:=hj;have hi:=(bIr.1 hx).1;rw[bJj,bI0 (by rw[bK];omega),aGy hx j hj4,bIp,bIq hj];rfl,hk⟩
theorem aOx{l:List El}{zs:List Value}{i:Nat}(x:El)(h:i<l.length):nB x.cells (fl l++zs) (i*4)=fl (l.set i x)++zs:=by
 rw[<-aVg x h,lE _ _ _ (by rw[bIo,bK,x.cells_len];omega),lE _ _ _ (by rw[bK,x.cells_len];omega)];rw[List.take_append_of_le_length (by rw[bK];omega),bMq (by rw[bK,x.cells_len];omega),bIt,bIt,bIt]
theorem Sto.el{L:Own}{bp:Nat}{l:List El}{zs:List Value}{i:Nat}{x:El}{T:TypeId}{k:Own->Prop}(n:Nat)(hb:L[n]?=some (bp,.cells (fl l++zs).toArray T (0,0)))(hi:i<l.length)(hk:k (L.set n (bp,.cells (fl (l.set i x)++zs).toArray T (0,0)))):Sto L ⟨bp,0+i*4,none⟩ x.cells k:=by
 refine⟨rfl,n,(fl l++zs).toArray,T,hb,?_,rfl,?_⟩
 .rw[bLp,bIo,bK,x.cells_len];show 0+i*4+4<=_;omega
 .rw[kC];show k (L.set n (bp,.cells (nB x.cells (fl l++zs) (0+i*4)).toArray T (0,0)));rw[bJc,aOx x hi];exact hk
end Go.Vc
/- Lists of terms: two exchanged, runs turned about, runs cut: plain mathematics. -/
namespace Go.Vc
open Go Go.Dig
def leE(x y:El):Prop:=¬eI.lt y.m x.m
abbrev dV (l:List El):Prop:=l.Pairwise leE
theorem aJh(x:El):leE x x:=eI.irr _
theorem xB{a b c:El}(h:leE a b)(g:leE b c):leE a c:=xA (K:=Mon) (V:=Nat) (a:=(a.m,0)) (b:=(b.m,0)) (c:=(c.m,0)) h g
theorem aGz{a b:El}(h:eI.lt a.m b.m):leE a b:=fun x=>eI.irr _ (eI.tra h x)
def pe(x:El):Mon × El:=(x.m,x)
theorem aVh{l:List El}:aJg (l.map pe)↔dV l:=List.pairwise_map
theorem bHn{a1 a2 b1 b2:List El}(ha:dV (a1++a2))(hb:dV (b1++b2))(h1:∀x y,a1.getLast?=some x->b2.head?=some y->leE x y)(h2:∀x y,b1.getLast?=some x->a2.head?=some y->leE x y):
  ∀x∈a1++b1,∀y∈a2++b2,leE x y:=by
 have h:=aVf (K:=Mon) (V:=El) (a1:=a1.map pe) (a2:=a2.map pe) (b1:=b1.map pe) (b2:=b2.map pe) (by rw[<-bI3];exact aVh.2 ha) (by rw[<-bI3];exact aVh.2 hb)
  (fun x y hx hy=>by
    rw[List.getLast?_map] at hx;rw[List.head?_map] at hy;obtain⟨x',hx',rfl⟩:=Option.map_eq_some_iff.1 hx;obtain⟨y',hy',rfl⟩:=Option.map_eq_some_iff.1 hy;exact h1 x' y' hx' hy')
  (fun x y hx hy=>by
    rw[List.getLast?_map] at hx;rw[List.head?_map] at hy;obtain⟨x',hx',rfl⟩:=Option.map_eq_some_iff.1 hx;obtain⟨y',hy',rfl⟩:=Option.map_eq_some_iff.1 hy;exact h2 x' y' hx' hy')
 intro x hx y hy;exact h (pe x) (by rw[<-bI3];exact bJg hx) (pe y) (by rw[<-bI3];exact bJg hy)
theorem aRe{a1 a2 b1 b2 m1 m2:List El}(h:∀x∈a1++b1,∀y∈a2++b2,leE x y)(o1:dV m1)(o2:dV m2)(p1:m1.Perm (a1++b1))(p2:m2.Perm (a2++b2)):
  dV (m1++m2)/\(m1++m2).Perm ((a1++a2)++(b1++b2)):=by
 refine⟨List.pairwise_append.2 ⟨o1,o2,fun x hx y hy=>h x (p1.mem_iff.1 hx) y (p2.mem_iff.1 hy)⟩,(p1.append p2).trans ?_⟩
 rw[bIt,bIt];refine List.Perm.append_left a1 ?_;rw[<-bIt,<-bIt];exact List.Perm.append_right b2 bKy
/-! exchanging -/
theorem oT(A:List El)(x:El)(R:List El):(A++x::R)[A.length]?=some x:=by
 rw[bJa (bJf _),bK7];rfl
theorem aB5(A:List El)(x:El)(B:List El)(y:El)(C:List El):(A++x::(B++y::C))[A.length+1+B.length]?=some y:=by
 rw[bJa Aa,show A.length+1+B.length-A.length=B.length+1 by omega,bLu]
 exact oT B y C
theorem aG0(A:List El)(x:El)(B:List El)(y:El)(C:List El):((A++x::(B++y::C)).set A.length y).set (A.length+1+B.length) x=A++y::(B++x::C):=by
 rw[bJ5 _ _ (bJf _),bK7,List.set_cons_zero,bJ5 _ _ Aa,show A.length+1+B.length-A.length=B.length+1 by omega,bK9,bJ5 _ _ (bJf _),bK7,List.set_cons_zero]
theorem aVi(A:List El)(x:El)(B:List El)(y:El)(C:List El):((A++x::(B++y::C)).set (A.length+1+B.length) x).set A.length y=A++y::(B++x::C):=by
 rw[List.set_comm _ _ Aa,aG0]
theorem aVj(X Z Y Q1 P1 P2 Q2:List El)(p q:El)(h:P1.length=Q1.length){a b i:Nat}(ha:a=X.length)(hi:i=P1.length)(hb:b=X.length+(P1.length+1+P2.length)+Z.length):
  (X++(Q1++p::P2)++Z++(P1++q::Q2)++Y)[a+i]?=some p/\(X++(Q1++p::P2)++Z++(P1++q::Q2)++Y)[b+i]?=some q/\
  (((X++(Q1++p::P2)++Z++(P1++q::Q2)++Y).set (a+i) q).set (b+i) p=X++((Q1++[q])++P2)++Z++((P1++[p])++Q2)++Y):=by
 have e:X++(Q1++p::P2)++Z++(P1++q::Q2)++Y=(X++Q1)++p::((P2++Z++P1)++q::(Q2++Y)):=by simp[bIt]
 have e1:a+i=(X++Q1).length:=by rw[bIo];omega
 have e2:b+i=(X++Q1).length+1+(P2++Z++P1).length:=by simp only[bIo];omega
 rw[e,e1,e2];refine⟨oT _ _ _,aB5 _ _ _ _ _,?_⟩;rw[aG0];simp[bIt]
theorem bDe{L R:List El}(oL:dV L)(oR:dV R){s t:Nat}(hs:s<=L.length)(ht:t<=R.length)(h1:∀x y,0<s->L[s-1]?=some x->R[t]?=some y->leE x y)(h2:∀x y,0<t->R[t-1]?=some x->L[s]?=some y->leE x y):
  ∀x∈L.take s++R.take t,∀y∈L.drop s++R.drop t,leE x y:=by
 have last:∀(l:List El) (n:Nat) (x:El),n<=l.length->(l.take n).getLast?=some x->0<n/\l[n-1]?=some x:=fun l n x hn h=>by
  rw[List.getLast?_eq_getElem?,bI9,bKn,bKu hn] at h
  split at h
  .exact⟨Aa,h⟩
  .cases h
 have first:∀(l:List El) (n:Nat) (y:El),(l.drop n).head?=some y->l[n]?=some y:=fun l n y h=>by rw[List.head?_drop] at h;exact h
 refine bHn (by rw[bI6];exact oL) (by rw[bI6];exact oR) (fun x y hx hy=>?_) (fun x y hx hy=>?_)
 .obtain⟨h0,hx'⟩:=last L s x hs hx;exact h1 x y h0 hx' (first R t y hy)
 .obtain⟨h0,hx'⟩:=last R t x ht hx;exact h2 x y h0 hx' (first L s y hy)
theorem aOy{l:List El}(h:dV l){i j:Nat}{x y:El}(hij:i<=j)(hx:l[i]?=some x)(hy:l[j]?=some y):leE x y:=by
 by_cases e:i=j
 .subst e;rw[hx] at hy;cases hy;exact aJh x
 .obtain⟨h1,rfl⟩:=bIr.1 hx;obtain⟨h2,rfl⟩:=bIr.1 hy;exact (List.pairwise_iff_getElem.1 h) i j h1 h2 Aa
theorem bAp{R:List El}(o:dV R){e:El}{t:Nat}(h1:∀i x,i<t->R[i]?=some x->leE x e)(h2:∀i x,t<=i->R[i]?=some x->leE e x):dV (R.take t++e::R.drop t):=by
 refine List.pairwise_append.2 ⟨o.sublist (List.take_sublist ..),List.pairwise_cons.2 ⟨fun y hy=>?_,o.sublist (List.drop_sublist ..)⟩,fun x hx y hy=>?_⟩
 .obtain⟨i,hi,rfl⟩:=List.mem_iff_getElem.1 hy;exact h2 (t+i) _ Aa (by rw[<-bLt];exact bIq hi)
 .obtain⟨i,hi,rfl⟩:=List.mem_iff_getElem.1 hx;have hi':=hi;rw[bI9] at hi';have hxe:R[i]?=some ((R.take t)[i]):=by rw[bM2];exact bIq Aa
  have g1:=h1 i _ Aa hxe;rcases bI7.1 hy with rfl|hy
  .exact g1
  .obtain⟨j,hj,rfl⟩:=List.mem_iff_getElem.1 hy;exact xB g1 (h2 (t+j) _ Aa (by rw[<-bLt];exact bIq hj))
end Go.Vc