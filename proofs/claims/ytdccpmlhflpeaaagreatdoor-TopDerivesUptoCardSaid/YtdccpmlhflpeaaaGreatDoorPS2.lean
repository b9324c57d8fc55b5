/- Texts as rows of bytes: their order; cells written at a place. -/
import Derived.Test.YtdccpmlhflpeaaaGreatDoorE4
set_option linter.all false
namespace Go.Vc
open Go Go.Dig
theorem blt_eq:∀x y:List UInt8,Op.bytesLess x y=decide (x<y)
 | [],[]=>by simp[Op.bytesLess]
 | _::_,[]=>by simp[Op.bytesLess]
 | [],_::_=>by simp[Op.bytesLess]
 | a::x,b::y=>by
  simp only[Op.bytesLess,blt_eq x y,List.cons_lt_cons_iff];by_cases h2:a=b
  .by_cases h1:a<b<;>simp[h1,h2]
  .by_cases h1:a<b<;>simp[h1,h2]
theorem gM(x:List UInt8):(⟨x.toArray⟩:ByteArray).toList=x:=by rw[ByteArray.toList_eq]
theorem aV9{x y:List UInt8}{p q:Prop}(hp:x<y->p)(hq:¬x<y->q):cnd (slt ⟨x.toArray⟩ ⟨y.toArray⟩) p q:=by
 unfold slt;rw[gM,gM,blt_eq];by_cases h:x<y
 .rw[decide_eq_true h];exact hp h
 .rw[decide_eq_false h];exact hq h
theorem aY9{x y:List UInt8}{p q:Prop}(hp:x=y->p)(hq:x≠y->q):cnd (seq ⟨x.toArray⟩ ⟨y.toArray⟩) p q:=by
 refine aDe (fun h=>hp ?_) (fun h=>hq fun e=>h (by rw[e]))
 have:=congrArg ByteArray.toList h
 rwa [gM,gM] at this
theorem jJ:∀(vs l:List Value) (o:Nat),o+vs.length<=l.length->nY vs l o=l.take o++vs++l.drop (o+vs.length)
 | [],l,o,_=>by simp[nY]
 | v::vs,l,o,h=>by
  rw[bDa] at h;rw[nY,jJ vs (l.set o v) (o+1) (by rw[bFu];omega)];rw[List.take_set,List.drop_set_of_lt Aa,bDa,show o+1+vs.length=o+(vs.length+1) by omega]
  have:(List.take (o+1) l).set o v=l.take o++[v]:=by
   rw[List.take_add_one,bC8 Aa];rw[bEo _ _ (by rw[bDr];omega)];simp[bDr,bE9 (show o<=l.length by omega)]
  rw[this];simp
end Go.Vc
/- Sums over sorted lists of gI: plain mathematics. -/
namespace Go.Dig
class dK (K:Type) where
 lt:K->K->Prop
 dec:∀a b,Decidable (lt a b)
 irr:∀a,¬lt a a
 tra:∀{a b c},lt a b->lt b c->lt a c
 tri:∀a b,lt a b\/a=b\/lt b a
instance {K:Type} [dK K] (a b:K):Decidable (dK.lt a b):=dK.dec a b
class gH (V:Type) [Add V] [OfNat V 0]:Prop where
 zero_add:∀a:V,0+a=a
 add_zero:∀a:V,a+0=a
 add_comm:∀a b:V,a+b=b+a
 add_assoc:∀a b c:V,a+b+c=a+(b+c)
instance:gH Nat:=⟨bDu,bEh,bGj,bE4⟩
instance:gH Rat:=⟨bG8,bFs,bHl,bFl⟩
section
variable {K V:Type} [dK K] [DecidableEq K] [Add V] [OfNat V 0] [gH V] [DecidableEq V]
def cf(l:List (K × V))(k:K):V:=l.foldr (fun t s=>if t.1=k then t.2+s else s) 0
omit [dK K] [gH V] [DecidableEq V] in
theorem kB(k:K):cf ([]:List (K × V)) k=0:=rfl
omit [dK K] [gH V] [DecidableEq V] in
theorem aO(t:K × V)(l:List (K × V))(k:K):cf (t::l) k=if t.1=k then t.2+cf l k else cf l k:=rfl
omit [dK K] [DecidableEq V] in
theorem jK(k:K):∀a b:List (K × V),cf (a++b) k=cf a k+cf b k
 | [],b=>(gH.zero_add _).symm
 | t::a,b=>by
  rw[bEn,aO,aO,jK k a b]
  split
  .rw[gH.add_assoc]
  .rfl
def iJ(k:K)(v:V):List (K × V)->List (K × V)
 | []=>[(k,v)]
 | (n,d)::q=>if dK.lt k n then (k,v)::(n,d)::q else if k=n then (n,v+d)::q else (n,d)::iJ k v q
omit [DecidableEq V] in
theorem aRq(k:K)(v:V)(z:K):∀l:List (K × V),cf (iJ k v l) z=(if k=z then v else 0)+cf l z
 | []=>by
  unfold iJ;rw[aO,kB]
  split
  .rfl
  .rw[gH.add_zero]
 | (n,d)::q=>by
  unfold iJ
  split
  .rw[aO]
   split
   .rfl
   .rw[gH.zero_add]
  .split
   .rename_i h;subst h;rw[aO,aO]
    split
    .rw[gH.add_assoc]
    .rw[gH.zero_add]
   .rw[aO,aO,aRq k v z q]
    split
    .rw[<-gH.add_assoc,<-gH.add_assoc,gH.add_comm d]
    .rfl
abbrev lR (l:List (K × V)):Prop:=l.Pairwise fun s t=>dK.lt s.1 t.1
omit [OfNat V 0] [gH V] [DecidableEq V] in
theorem aLd{k:K}{v:V}{x:K}:∀{l:List (K × V)},(∀t∈l,dK.lt x t.1)->dK.lt x k->∀t∈iJ k v l,dK.lt x t.1
 | [],_,hk,t,ht=>by
  unfold iJ at ht;rw[bDk] at ht;subst ht;exact hk
 | (n,d)::q,h,hk,t,ht=>by
  unfold iJ at ht
  split at ht
  .rcases bDp.1 ht with rfl|ht
   .exact hk
   .exact h t ht
  .split at ht
   .rcases bDp.1 ht with rfl|ht
    .exact h (n,d) (bDe ..)
    .exact h t (bDh _ ht)
   .rcases bDp.1 ht with rfl|ht
    .exact h (n,d) (bDe ..)
    .exact aLd (fun t ht=>h t (bDh _ ht)) hk t ht
omit [OfNat V 0] [gH V] [DecidableEq V] in
theorem aLe{k:K}{v:V}:∀{l:List (K × V)},lR l->lR (iJ k v l)
 | [],_=>List.pairwise_cons.2 ⟨fun _ h=>(by simp at h),List.Pairwise.nil⟩
 | (n,d)::q,h=>by
  have h':=List.pairwise_cons.1 h;unfold iJ
  split
  .rename_i hlt;refine List.pairwise_cons.2 ⟨fun t ht=>?_,h⟩
   rcases bDp.1 ht with rfl|ht
   .exact hlt
   .exact dK.tra hlt (h'.1 t ht)
  .rename_i hlt
   split
   .exact List.pairwise_cons.2 ⟨h'.1,h'.2⟩
   .rename_i hne;have hnk:dK.lt n k:=by
     rcases dK.tri k n with x|x|x
     .exact absurd x hlt
     .exact absurd x hne
     .exact x
    exact List.pairwise_cons.2 ⟨aLd h'.1 hnk,aLe h'.2⟩
def kZ(l:List (K × V)):List (K × V):=l.foldr (fun t q=>iJ t.1 t.2 q) []
def aV(l:List (K × V)):List (K × V):=(kZ l).filter fun t=>!decide (t.2=0)
def sL(l:List (K × V)):Prop:=lR l/\∀t∈l,t.2≠0
omit [OfNat V 0] [gH V] [DecidableEq V] in
theorem xV:∀l:List (K × V),lR (kZ l)
 | []=>List.Pairwise.nil
 | _::l=>aLe (xV l)
omit [DecidableEq V] in
theorem aD8(z:K):∀l:List (K × V),cf (kZ l) z=cf l z
 | []=>rfl
 | t::l=>by
  show cf (iJ t.1 t.2 (kZ l)) z=_
  rw[aRq,aD8 z l,aO]
  split
  .rfl
  .rw[gH.zero_add]
omit [dK K] in
theorem oU(z:K):∀l:List (K × V),cf (l.filter fun t=>!decide (t.2=0)) z=cf l z
 | []=>rfl
 | t::l=>by
  by_cases h:t.2=0
  .rw[bHp (by simp[h]),oU z l,aO]
   split
   .rw[h,gH.zero_add]
   .rfl
  .rw[bHq (by simp[h]),aO,aO,oU z l]
theorem cE(l:List (K × V)):sL (aV l):=
 ⟨(xV l).filter _,fun t ht=>by have:=(List.mem_filter.1 ht).2;simpa using this⟩
theorem xW(l:List (K × V))(z:K):cf (aV l) z=cf l z:=by unfold aV;rw[oU,aD8]
omit [gH V] [DecidableEq V] in
theorem mP{l:List (K × V)}{k:K}(h:∀t∈l,dK.lt k t.1):cf l k=0:=by
 induction l with
 | nil=>rfl
 | cons t l ih=>
  rw[aO,if_neg (fun e=>by subst e;exact dK.irr _ (h t (bDe ..)))]
  exact ih fun u hu=>h u (bDh _ hu)
omit [DecidableEq V] in
theorem pM:∀{l:List (K × V)} {t:K × V},lR l->t∈l->cf l t.1=t.2
 | u::l,t,h,ht=>by
  have h':=List.pairwise_cons.1 h;rcases bDp.1 ht with rfl|ht
  .rw[aO,if_pos rfl,mP h'.1,gH.add_zero]
  .rw[aO,if_neg (fun e=>by have:=h'.1 t ht;rw[e] at this;exact dK.irr _ this)]
   exact pM h'.2 ht
omit [gH V] [DecidableEq V] [dK K] in
theorem zU{l:List (K × V)}{k:K}(h:∀t∈l,t.1≠k):cf l k=0:=by
 induction l with
 | nil=>rfl
 | cons t l ih=>
  rw[aO,if_neg (h t (bDe ..))];exact ih fun u hu=>h u (bDh _ hu)
omit [DecidableEq V] in
theorem kI:∀{a b:List (K × V)},sL a->sL b->(∀k,cf a k=cf b k)->a=b
 | [],[],_,_,_=>rfl
 | [],t::b,_,hb,h=>by
  have:=h t.1;rw[kB,pM hb.1 (bDe ..)] at this;exact absurd this.symm (hb.2 t (bDe ..))
 | t::a,[],ha,_,h=>by
  have:=h t.1;rw[kB,pM ha.1 (bDe ..)] at this;exact absurd this (ha.2 t (bDe ..))
 | (m,c)::a,(n,d)::b,ha,hb,h=>by
  have ha':=List.pairwise_cons.1 ha.1;have hb':=List.pairwise_cons.1 hb.1;have hmn:m=n:=by
   rcases dK.tri m n with x|x|x
   .have:=h m;rw[pM ha.1 (bDe ..),mP (fun t ht=>by
      rcases bDp.1 ht with rfl|ht
      .exact x
      .exact dK.tra x (hb'.1 t ht))] at this
    exact absurd this (ha.2 _ (bDe ..))
   .exact x
   .have:=h n;rw[pM hb.1 (t:=(n,d)) (bDe ..),mP (fun t ht=>by
      rcases bDp.1 ht with rfl|ht
      .exact x
      .exact dK.tra x (ha'.1 t ht))] at this
    exact absurd this.symm (hb.2 _ (bDe ..))
  subst hmn;have hcd:c=d:=by
   have:=h m
   rwa [pM ha.1 (t:=(m,c)) (bDe ..),pM hb.1 (t:=(m,d)) (bDe ..)] at this
  subst hcd;refine congrArg _ (kI ⟨ha'.2,fun t ht=>ha.2 t (bDh _ ht)⟩ ⟨hb'.2,fun t ht=>hb.2 t (bDh _ ht)⟩ fun k=>?_)
  by_cases e:m=k
  .subst e;rw[mP ha'.1,mP hb'.1]
  .have:=h k
   rwa [aO,aO,if_neg e,if_neg e] at this
theorem aRr{a:List (K × V)}(h:sL a):aV a=a:=kI (cE a) h fun k=>xW a k
end
def sm{K:Type}(f:K->Rat)(l:List (K × Rat)):Rat:=l.foldr (fun t s=>t.2*f t.1+s) 0
section
variable {K:Type} (f g:K->Rat)
theorem cN(t:K × Rat)(l:List (K × Rat)):sm f (t::l)=t.2*f t.1+sm f l:=rfl
theorem aJf:∀a b:List (K × Rat),sm f (a++b)=sm f a+sm f b
 | [],b=>(bG8 _).symm
 | t::a,b=>by rw[bEn,cN,cN,aJf a b,bFl]
theorem dO{f g:K->Rat}{l:List (K × Rat)}(h:∀t∈l,f t.1=g t.1):sm f l=sm g l:=by
 induction l with
 | nil=>rfl
 | cons t l ih=>rw[cN,cN,h t (bDe ..),ih fun u hu=>h u (bDh _ hu)]
theorem aD9(l:List (K × Rat)):sm (fun k=>f k+g k) l=sm f l+sm g l:=by
 induction l with
 | nil=>exact (bFs _).symm
 | cons t l ih=>rw[cN,cN,cN,ih,bHx,bFl,bFl,<-bFl (sm f l),bHl (sm f l) (t.2*g t.1),bFl]
theorem zV(c:Rat)(l:List (K × Rat)):sm (fun k=>c*f k) l=c*sm f l:=by
 induction l with
 | nil=>exact (bFn _).symm
 | cons t l ih=>rw[cN,cN,ih,bHx,<-bEq,bFp t.2 c,bEq]
theorem aEa(l:List (K × Rat)):sm (fun _=>0) l=0:=by
 induction l with
 | nil=>rfl
 | cons t l ih=>rw[cN,ih,bFn,bFs]
theorem aLf{L:Type}(f:K->L->Rat)(b:List (L × Rat)):∀a:List (K × Rat),sm (fun x=>sm (f x) b) a=sm (fun y=>sm (fun x=>f x y) a) b
 | []=>(aEa b).symm
 | t::a=>by
  rw[cN,aLf f b a];have e:(fun y=>sm (fun x=>f x y) (t::a))=fun y=>t.2*f t.1 y+sm (fun x=>f x y) a:=rfl
  rw[e,aD9,zV]
variable [dK K] [DecidableEq K]
omit [dK K] in
theorem aJg(k:K):∀l:List (K × Rat),sm (fun x=>if x=k then 1 else 0) l=cf l k
 | []=>rfl
 | t::l=>by
  rw[cN,aO,aJg k l]
  split
  .rw[bF7]
  .rw[bFn,bG8]
theorem aRs(k:K)(v:Rat):∀l:List (K × Rat),sm f (iJ k v l)=v*f k+sm f l
 | []=>rfl
 | (n,d)::q=>by
  unfold iJ
  split
  .rfl
  .split
   .rename_i h;subst h;rw[cN,cN,bHy,bFl]
   .rw[cN,cN,aRs k v q,<-bFl,<-bFl,bHl (d*f n)]
theorem bG(l:List (K × Rat)):sm f (aV l)=sm f l:=by
 have h1:∀q:List (K × Rat),sm f (q.filter fun t=>!decide (t.2=0))=sm f q:=fun q=>by
  induction q with
  | nil=>rfl
  | cons t q ih=>
   by_cases h:t.2=0
   .rw[bHp (by simp[h]),ih,cN,h,bEz,bG8]
   .rw[bHq (by simp[h]),cN,cN,ih]
 unfold aV;rw[h1]
 induction l with
 | nil=>rfl
 | cons t l ih=>
  show sm f (iJ t.1 t.2 (kZ l))=_
  rw[aRs,ih];rfl
theorem aZa{a b:List (K × Rat)}(ha:sL a)(hb:sL b)(h:∀f:K->Rat,sm f a=sm f b):a=b:=
 kI ha hb fun k=>by rw[<-aJg,<-aJg];exact h _
end
end Go.Dig
/- Products of atoms with exponents, names against their inverses: plain mathematics. -/
namespace Go.Dig
theorem pN(a b:List UInt8):a<b\/a=b\/b<a:=by
 by_cases h:a<b
 .exact .inl h
 .by_cases h':b<a
  .exact .inr (.inr h')
  .exact .inr (.inl (List.le_antisymm (List.not_lt.1 h') (List.not_lt.1 h)))
instance:dK (List UInt8):=⟨fun a b=>a<b,fun _ _=>inferInstance,fun a=>bGo a,fun h k=>bHr h k,pN⟩
abbrev Fac:Type:=List UInt8 × Nat
abbrev Mon:Type:=List Fac
def ltF:Mon->Mon->Prop
 | [],[]=>False
 | [],_::_=>True
 | _::_,[]=>False
 | (x,i)::a,(y,j)::b=>x<y\/x=y/\(i<j\/i=j/\ltF a b)
def aRt:(a b:Mon)->Decidable (ltF a b)
 | [],[]=>by unfold ltF;exact inferInstance
 | [],_::_=>by unfold ltF;exact inferInstance
 | _::_,[]=>by unfold ltF;exact inferInstance
 | (x,i)::a,(y,j)::b=>by
  unfold ltF;have:=aRt a b;exact inferInstance
theorem aLg:∀a:Mon,¬ltF a a
 | []=>id
 | (x,i)::a=>by
  unfold ltF
  rintro (h|⟨-,h|⟨-,h⟩⟩)
  .exact bGo _ h
  .exact Nat.lt_irrefl _ h
  .exact aLg a h
theorem aLh:∀{a b c:Mon},ltF a b->ltF b c->ltF a c
 | [],[],_,h,_=>h.elim
 | [],_::_,[],_,h=>h.elim
 | [],_::_,_::_,_,_=>trivial
 | _::_,[],_,h,_=>h.elim
 | _::_,_::_,[],_,h=>h.elim
 | (x,i)::a,(y,j)::b,(z,k)::c,h,g=>by
  unfold ltF at h g ⊢;rcases h with h|⟨rfl,h⟩
  .rcases g with g|⟨rfl,-⟩
   .exact .inl (bHr h g)
   .exact .inl h
  .rcases g with g|⟨rfl,g⟩
   .exact .inl g
   .refine .inr ⟨rfl,?_⟩;rcases h with h|⟨rfl,h⟩
    .rcases g with g|⟨rfl,-⟩
     .exact .inl (bH0 h g)
     .exact .inl h
    .rcases g with g|⟨rfl,g⟩
     .exact .inl g
     .exact .inr ⟨rfl,aLh h g⟩
theorem aLi:∀a b:Mon,ltF a b\/a=b\/ltF b a
 | [],[]=>.inr (.inl rfl)
 | [],_::_=>.inl trivial
 | _::_,[]=>.inr (.inr trivial)
 | (x,i)::a,(y,j)::b=>by
  unfold ltF;rcases pN x y with h|rfl|h
  .exact .inl (.inl h)
  .rcases Nat.lt_trichotomy i j with h|rfl|h
   .exact .inl (.inr ⟨rfl,.inl h⟩)
   .rcases aLi a b with h|rfl|h
    .exact .inl (.inr ⟨rfl,.inr ⟨rfl,h⟩⟩)
    .exact .inr (.inl rfl)
    .exact .inr (.inr (.inr ⟨rfl,.inr ⟨rfl,h⟩⟩))
   .exact .inr (.inr (.inr ⟨rfl,.inl h⟩))
  .exact .inr (.inr (.inl h))
instance:dK Mon:=⟨ltF,aRt,aLg,fun h k=>aLh h k,aLi⟩
def nmA(s:List UInt8):Prop:=fE (s.map UInt8.toNat)
instance (s:List UInt8):Decidable (nmA s):=by unfold nmA;exact inferInstance
def iL:List UInt8:=[49,32,47,32]
def inv(s:List UInt8):Option (List UInt8):=if nmA s then some (iL++s) else if 4<s.length/\s.take 4=iL/\nmA (s.drop 4) then some (s.drop 4) else none
theorem aLj(s:List UInt8):¬nmA (iL++s):=fun h=>by
 have h2:=h.2.1;have:cZ ((iL++s).map UInt8.toNat)=0:=rfl;rw[this] at h2;simp[iL] at h2
theorem aWa{s:List UInt8}(h:nmA s):0<s.length:=by
 have:=h.2.2.1;cases s with
 | nil=>exact absurd rfl this
 | cons _ _=>exact Nat.succ_pos _
theorem xX{s u:List UInt8}(h:inv s=some u):inv u=some s:=by
 unfold inv at h
 split at h
 .rename_i hn;cases h;have hp:=aWa hn;unfold inv;rw[if_neg (aLj s),if_pos ⟨by simp[iL];omega,rfl,hn⟩];rfl
 .split at h
  .rename_i hn;cases h;unfold inv;rw[if_pos hn.2.2,<-hn.2.1,bDo]
  .cases h
def rv(l:Mon)(s:List UInt8):Nat:=match inv s with
 | some u=>cf l u
 | none=>0
def jn(a b:Mon):Mon:=aV ((kZ (a++b)).map fun t=>(t.1,t.2-min t.2 (rv (a++b) t.1)))
theorem aRu{q:Mon}(g:List UInt8->Nat->Nat)(hg:∀s,g s 0=0)(h:lR q)(s:List UInt8):cf (q.map fun t=>(t.1,g t.1 t.2)) s=g s (cf q s):=by
 induction q with
 | nil=>exact (hg s).symm
 | cons t q ih=>
  have h':=List.pairwise_cons.1 h;rw[bEe,aO,aO,ih h'.2]
  split
  .rename_i e;subst e;rw[mP h'.1,hg];rfl
  .rfl
theorem rF(a b:Mon)(s:List UInt8):cf (jn a b) s=cf a s+cf b s-min (cf a s+cf b s) (rv (a++b) s):=by
 unfold jn;rw[xW,aRu (fun s n=>n-min n (rv (a++b) s)) (fun s=>Nat.zero_sub _) (xV _),aD8,jK]
theorem nS(a b:Mon)(s:List UInt8):rv (a++b) s=rv a s+rv b s:=by
 unfold rv;cases inv s with
 | none=>rfl
 | some u=>exact jK u a b
theorem mQ(a b:Mon):sL (jn a b):=cE _
theorem aEb(a b:Mon):jn a b=jn b a:=kI (mQ a b) (mQ b a) fun s=>by
 rw[rF,rF,nS,nS,bGj (cf a s),bGj (rv a s)]
theorem aRv(a b:Mon)(s:List UInt8):rv (jn a b) s=rv a s+rv b s-min (rv a s+rv b s) (cf a s+cf b s)\/inv s=none:=by
 cases h:inv s with
 | none=>exact .inr rfl
 | some u=>
  left
  have e:∀m:Mon,rv m s=cf m u:=fun m=>by unfold rv;rw[h]
  have e':∀m:Mon,rv m u=cf m s:=fun m=>by unfold rv;rw[xX h]
  rw[e,e,e,rF,nS,e',e']
theorem gP{s:List UInt8}(h:inv s=none)(m:Mon):rv m s=0:=by unfold rv;rw[h]
theorem aRw(a b c:Mon):jn (jn a b) c=jn a (jn b c):=kI (mQ _ _) (mQ _ _) fun s=>by
 rw[rF,rF,nS,nS,rF,rF,nS,nS];rcases aRv a b s with h1|h1
 .rcases aRv b c s with h2|h2
  .rw[h1,h2];omega
  .rw[gP h2,gP h2,gP h2,gP h2];have:=h1;rw[gP h2,gP h2,gP h2] at this;rw[gP h2];omega
 .rw[gP h1,gP h1,gP h1,gP h1,gP h1];omega
def wF(m:Mon):Prop:=sL m/\∀s,cf m s=0\/rv m s=0
theorem aRx(a b:Mon):wF (jn a b):=⟨mQ a b,fun s=>by
  rw[rF,nS];rcases aRv a b s with h|h
  .rw[h];omega
  .exact .inr (gP h _)⟩
theorem uN:wF []:=⟨⟨List.Pairwise.nil,fun _ h=>(by simp at h)⟩,fun _=>.inl rfl⟩
theorem aLk(s:List UInt8):wF [(s,1)]:=by
 refine⟨⟨List.pairwise_cons.2 ⟨fun _ h=>(by simp at h),List.Pairwise.nil⟩,fun t h=>by rw[bDk] at h;subst h;exact Nat.one_ne_zero⟩,fun z=>?_⟩
 by_cases e:s=z
 .subst e
  right
  unfold rv;cases h:inv s with
  | none=>rfl
  | some u=>
   show cf [(s,1)] u=0
   have hne:s≠u:=fun e=>?_
   .rw[aO,if_neg hne];rfl
   subst e;unfold inv at h
   split at h
   .have:=congrArg List.length (Option.some.inj h);simp[iL] at this;omega
   .split at h
    .rename_i hn;have:=congrArg List.length (Option.some.inj h);rw[bD3] at this;omega
    .cases h
 .left
  rw[aO,if_neg e];rfl
theorem aRy{m:Mon}(h:wF m):jn [] m=m:=kI (mQ _ _) h.1 fun s=>by
 rw[rF,nS];have h0:rv [] s=0:=by unfold rv;cases inv s<;>rfl
 rw[h0,show cf ([]:Mon) s=0 from rfl];rcases h.2 s with x|x<;>rw[x]<;>omega
end Go.Dig
/- Products as the document forms them: two rows laid together, then names against their inverses; orders of monomials as numbers: plain mathematics. -/
namespace Go.Dig
theorem aWb{s u:List UInt8}:inv s=some u↔(nmA s/\u=iL++s)\/(nmA u/\s=iL++u):=by
 constructor
 .intro h;unfold inv at h
  split at h
  .rename_i hn;cases h;exact .inl ⟨hn,rfl⟩
  .split at h
   .rename_i hn;cases h;exact .inr ⟨hn.2.2,by rw[<-hn.2.1,bDo]⟩
   .cases h
 .rintro (⟨hn,rfl⟩|⟨hn,rfl⟩)
  .unfold inv;rw[if_pos hn]
  .exact xX (by unfold inv;rw[if_pos hn])
def mR(a b:Mon):Int:=if dK.lt a b then -1 else if a=b then 0 else 1
theorem aRz:mR [] []=0:=rfl
theorem aZb(t:Fac)(b:Mon):mR [] (t::b)=-1:=if_pos trivial
theorem aZc(t:Fac)(a:Mon):mR (t::a) []=1:=by
 unfold mR;rw[if_neg (show ¬dK.lt (K:=Mon) (t::a) [] from fun h=>h),if_neg Ao]
theorem aNw(x y:List UInt8)(i j:Nat)(a b:Mon):mR ((x,i)::a) ((y,j)::b)=if x<y then -1 else if y<x then 1 else if i<j then -1 else if j<i then 1 else mR a b:=by
 have hd:dK.lt (K:=Mon) ((x,i)::a) ((y,j)::b)↔(x<y\/x=y/\(i<j\/i=j/\ltF a b)):=Iff.rfl;unfold mR;by_cases h1:x<y
 .rw[if_pos (hd.2 (.inl h1)),if_pos h1]
 .rw[if_neg h1];by_cases h2:y<x
  .have hne:x≠y:=fun e=>by subst e;exact bGo _ h2
   rw[if_pos h2,if_neg (fun h=>(hd.1 h).elim h1 fun g=>hne g.1),if_neg (fun e=>hne (by injection e with e;injection e))]
  .rw[if_neg h2];obtain rfl:x=y:=by
    rcases pN x y with h|h|h
    .exact absurd h h1
    .exact h
    .exact absurd h h2
   by_cases h3:i<j
   .rw[if_pos (hd.2 (.inr ⟨rfl,.inl h3⟩)),if_pos h3]
   .rw[if_neg h3];by_cases h4:j<i
    .rw[if_pos h4,if_neg (fun h=>(hd.1 h).elim h1 fun g=>g.2.elim h3 fun g=>by omega),if_neg (fun e=>by injection e with e;injection e with _ e;omega)]
    .rw[if_neg h4];obtain rfl:i=j:=Aa;have e1:dK.lt (K:=Mon) ((x,i)::a) ((x,i)::b)↔dK.lt a b:=⟨fun h=>(hd.1 h).elim (fun g=>absurd g h1) fun g=>g.2.elim (fun g=>absurd g h3) fun g=>g.2,fun h=>hd.2 (.inr ⟨rfl,.inr ⟨rfl,h⟩⟩)⟩
     by_cases h5:dK.lt a b
     .rw[if_pos (e1.2 h5),if_pos h5]
     .rw[if_neg (fun h=>h5 (e1.1 h)),if_neg h5]
      by_cases h6:a=b
      .rw[if_pos (by rw[h6]),if_pos h6]
      .rw[if_neg (fun e=>h6 (by injection e)),if_neg h6]
theorem lA{a b:Mon}:mR a b<0↔dK.lt a b:=by
 unfold mR
 split
 .rename_i h;exact⟨fun _=>h,fun _=>by decide⟩
 .rename_i h
  split<;>exact⟨fun x=>absurd x Ad,fun x=>absurd x h⟩
theorem aCd{a b:Mon}:mR a b=0↔a=b:=by
 unfold mR
 split
 .rename_i h;exact⟨fun x=>absurd x Ad,fun e=>by subst e;exact absurd h (dK.irr _)⟩
 .split
  .rename_i h;exact⟨fun _=>h,fun _=>rfl⟩
  .rename_i h;exact⟨fun x=>absurd x Ad,fun x=>absurd x h⟩
end Go.Dig
/- Lists in order, put together; like terms added up: plain mathematics. -/
namespace Go.Dig
section
variable {K V:Type} [dK K] [DecidableEq K] [Add V] [OfNat V 0] [gH V] [DecidableEq V]
def leK(s t:K × V):Prop:=¬dK.lt t.1 s.1
abbrev aGh (l:List (K × V)):Prop:=l.Pairwise leK
omit [DecidableEq K] [Add V] [OfNat V 0] [gH V] [DecidableEq V] in
theorem uO{a b c:K × V}(h:leK a b)(g:leK b c):leK a c:=fun x=>by
 rcases dK.tri a.1 b.1 with y|y|y
 .exact g (dK.tra x y)
 .exact g (by rw[<-y];exact x)
 .exact h y
omit [DecidableEq K] [Add V] [OfNat V 0] [gH V] [DecidableEq V] in
theorem aR0{a1 a2 b1 b2:List (K × V)}(ha:aGh (a1++a2))(hb:aGh (b1++b2))
  (h1:∀x y,a1.getLast?=some x->b2.head?=some y->leK x y) (h2:∀x y,b1.getLast?=some x->a2.head?=some y->leK x y):
  ∀x∈a1++b1,∀y∈a2++b2,leK x y:=by
 have ha':=List.pairwise_append.1 ha;have hb':=List.pairwise_append.1 hb;have top:∀{l:List (K × V)} {x:K × V},aGh l->x∈l->∃z,l.getLast?=some z/\(leK x z):=by
  intro l x hl hx;obtain⟨z,hz⟩:∃z,l.getLast?=some z:=by
   cases h:l.getLast? with
   | none=>rw[List.getLast?_eq_none_iff] at h;subst h;simp at hx
   | some z=>exact⟨z,rfl⟩
  refine⟨z,hz,?_⟩;obtain⟨r,rfl⟩:=List.getLast?_eq_some_iff.1 hz;rcases bDf.1 hx with hx|hx
  .exact (List.pairwise_append.1 hl).2.2 x hx z (bDk.2 rfl)
  .rw[bDk] at hx;subst hx;exact dK.irr _
 have bot:∀{l:List (K × V)} {x:K × V},aGh l->x∈l->∃z,l.head?=some z/\(leK z x):=by
  intro l x hl hx;cases l with
  | nil=>simp at hx
  | cons z l=>
   refine⟨z,rfl,?_⟩;rcases bDp.1 hx with rfl|hx
   .exact dK.irr _
   .exact (List.pairwise_cons.1 hl).1 x hx
 intro x hx y hy;rcases bDf.1 hx with hx|hx
 .rcases bDf.1 hy with hy|hy
  .exact ha'.2.2 x hx y hy
  .obtain⟨z,hz,e1⟩:=top ha'.1 hx;obtain⟨u,hu,e2⟩:=bot hb'.2.1 hy;exact uO (uO e1 (h1 z u hz hu)) e2
 .rcases bDf.1 hy with hy|hy
  .obtain⟨z,hz,e1⟩:=top hb'.1 hx;obtain⟨u,hu,e2⟩:=bot ha'.2.1 hy;exact uO (uO e1 (h2 z u hz hu)) e2
  .exact hb'.2.2 x hx y hy
omit [dK K] [DecidableEq V] in
theorem aLl{a b:List (K × V)}(h:a.Perm b)(k:K):cf a k=cf b k:=by
 induction h with
 | nil=>rfl
 | cons x _ ih=>rw[aO,aO,ih]
 | swap x y l=>
  rw[aO,aO,aO,aO]
  split<;>split
  .rw[<-gH.add_assoc,<-gH.add_assoc,gH.add_comm y.2]
  all_goals rfl
 | trans _ _ h1 h2=>exact h1.trans h2
def grS(out:List (K × V))(t:K × V):List (K × V):=match out.getLast? with
 | some u=>if u.1=t.1 then out.dropLast++[(u.1,u.2+t.2)] else out++[t]
 | none=>out++[t]
omit [dK K] [DecidableEq V] in
theorem bB2(out:List (K × V))(t:K × V)(z:K):cf (grS out t) z=cf out z+cf [t] z:=by
 unfold grS;cases h:out.getLast? with
 | none=>exact jK z _ _
 | some u=>
  obtain⟨r,rfl⟩:=List.getLast?_eq_some_iff.1 h;show cf (if u.1=t.1 then _ else _) z=_
  split
  .rename_i e;rw[List.dropLast_concat,jK,jK,gH.add_assoc]
   congr 1
   rw[aO,aO,aO,<-e,kB];show (if u.1=z then _ else _)=_
   split
   .rw[gH.add_zero,gH.add_zero,gH.add_zero]
   .rw[gH.add_zero]
  .exact jK z _ _
omit [OfNat V 0] [gH V] [DecidableEq V] in
theorem aZd{out:List (K × V)}{t:K × V}(h:lR out)(ht:∀u∈out,leK u t):lR (grS out t)/\∀v,(∀u∈out,leK u v)->leK t v->∀u∈grS out t,leK u v:=by
 unfold grS;cases hl:out.getLast? with
 | none=>
  rw[List.getLast?_eq_none_iff] at hl;subst hl;exact⟨List.pairwise_cons.2 ⟨fun _ x=>(by simp at x),List.Pairwise.nil⟩,fun v _ h2 u hu=>by rw[bEm,bDk] at hu;subst hu;exact h2⟩
 | some x=>
  obtain⟨r,rfl⟩:=List.getLast?_eq_some_iff.1 hl;have h':=List.pairwise_append.1 h;show lR (if x.1=t.1 then _ else _)/\_
  split
  .rename_i e;rw[List.dropLast_concat];refine⟨List.pairwise_append.2 ⟨h'.1,List.pairwise_cons.2 ⟨fun _ x=>(by simp at x),List.Pairwise.nil⟩,fun a ha b hb=>?_⟩,fun v h1 _ u hu=>?_⟩
   .rw[bDk] at hb;subst hb;exact h'.2.2 a ha x (bDk.2 rfl)
   .have hu:u∈(if x.1=t.1 then r++[(x.1,x.2+t.2)] else r++[x]++[t]):=hu
    rw[if_pos e] at hu;rcases bDf.1 hu with hu|hu
    .exact h1 u (bDz _ hu)
    .rw[bDk] at hu;subst hu;exact h1 x (bD0 _ (bDk.2 rfl))
  .rename_i e;refine⟨List.pairwise_append.2 ⟨h,List.pairwise_cons.2 ⟨fun _ x=>(by simp at x),List.Pairwise.nil⟩,fun a ha b hb=>?_⟩,fun v h1 h2 u hu=>?_⟩
   .rw[bDk] at hb;subst hb;have hxt:dK.lt x.1 b.1:=by
     rcases dK.tri x.1 b.1 with y|y|y
     .exact y
     .exact absurd y e
     .exact absurd y (ht x (bD0 _ (bDk.2 rfl)))
    rcases bDf.1 ha with ha|ha
    .exact dK.tra (h'.2.2 a ha x (bDk.2 rfl)) hxt
    .rw[bDk] at ha;subst ha;exact hxt
   .have hu:u∈(if x.1=t.1 then (r++[x]).dropLast++[(x.1,x.2+t.2)] else r++[x]++[t]):=hu
    rw[if_neg e] at hu;rcases bDf.1 hu with hu|hu
    .exact h1 u hu
    .rw[bDk] at hu;subst hu;exact h2
theorem aLm:∀(l out:List (K × V)),lR out->aGh l->(∀u∈out,∀t∈l,leK u t)->lR (l.foldl grS out)/\∀z,cf (l.foldl grS out) z=cf out z+cf l z
 | [],out,h,_,_=>⟨h,fun z=>(gH.add_zero _).symm⟩
 | t::l,out,h,hl,ho=>by
  have hl':=List.pairwise_cons.1 hl;obtain⟨g1,g2⟩:=aZd h fun u hu=>ho u hu t (bDe ..)
  obtain⟨r1,r2⟩:=aLm l (grS out t) g1 hl'.2 fun u hu v hv=>g2 v (fun w hw=>ho w hw v (bDh _ hv)) (hl'.1 v hv) u hu
  refine⟨r1,fun z=>?_⟩
  rw[List.foldl_cons,r2,bB2,gH.add_assoc]
  congr 1
  rw[<-jK];rfl
theorem aWc{l l':List (K × V)}(hp:l'.Perm l)(ho:aGh l'):(l'.foldl grS []).filter (fun t=>!decide (t.2=0))=aV l:=by
 obtain⟨h1,h2⟩:=aLm l' [] List.Pairwise.nil ho (fun u hu=>by simp at hu)
 refine kI ⟨h1.filter _,fun t ht=>?_⟩ (cE l) fun k=>?_
 .have:=(List.mem_filter.1 ht).2
  simpa using this
 .rw[oU,h2,xW,kB,gH.zero_add,aLl hp]
end
end Go.Dig
/- Rows of terms in own memory: an element read, an element written. -/
namespace Go.Vc
open Go Go.Dig
structure El where
 neg:Bool
 n:Sl
 d:Sl
 f:Sl
 m:Mon
 q:Rat
def El.cells(x:El):List Value:=[.bool x.neg,.slice x.n.a x.n.l x.n.c,.slice x.d.a x.d.l x.d.c,.slice x.f.a x.f.l x.f.c]
def fl(l:List El):List Value:=l.flatMap El.cells
theorem El.cells_len(x:El):x.cells.length=4:=rfl
theorem cU:∀l:List El,(fl l).length=l.length*4
 | []=>rfl
 | x::l=>by
  show (x.cells++fl l).length=_
  rw[bC6,cU l,x.cells_len,bDa];omega
theorem aR1(a b:List El):fl (a++b)=fl a++fl b:=List.flatMap_append
theorem aEc{l:List El}{i:Nat}{x:El}(h:l[i]?=some x)(k:Nat)(hk:k<4):(fl l)[i*4+k]?=x.cells[k]?:=by
 induction l generalizing i with
 | nil=>simp at h
 | cons y l ih=>
  show (y.cells++fl l)[i*4+k]?=_
  cases i with
  | zero=>
   simp at h;subst h;rw[bEv,bDu,bDi (by rw[y.cells_len];exact hk)]
  | succ i=>
   rw[bDs (by rw[y.cells_len];omega),y.cells_len,show (i+1)*4+k-4=i*4+k by omega]
   exact ih (by simpa using h)
theorem aR2:∀{l:List El} {i:Nat} (x:El),i<l.length->nY x.cells (fl l) (i*4)=fl (l.set i x)
 | y::l,0,x,_=>by
  rw[jJ _ _ _ (by rw[cU,x.cells_len,bDa];omega)];show List.take (0*4) (fl (y::l))++x.cells++List.drop (0*4+4) (y.cells++fl l)=x.cells++fl l;rw[bEv,bFa,bEm,bDu,bG1 (by rw[y.cells_len];exact bDx _),bG4 (by rw[y.cells_len];exact bDx _),bEm]
 | y::l,i+1,x,h=>by
  have ih:=aR2 (l:=l) (i:=i) x (by simpa using h);have hlen:i*4+x.cells.length<=(fl l).length:=by rw[cU,x.cells_len];have:i<l.length:=(by simpa using h);omega
  rw[jJ _ _ _ hlen] at ih;rw[jJ _ _ _ (by rw[cU,x.cells_len,bDa];have:i<l.length:=(by simpa using h);omega)]
  show List.take ((i+1)*4) (y.cells++fl l)++x.cells++List.drop ((i+1)*4+x.cells.length) (y.cells++fl l)=y.cells++fl (l.set i x)
  rw[<-ih,show (i+1)*4=y.cells.length+i*4 by rw[y.cells_len];omega,List.take_length_add_append,bE4,List.drop_length_add_append,bDb,bDb,bDb]
theorem LdN.el{h:aA}{L:Own}{bp:Nat}{l:List El}{zs:List Value}{i:Nat}{x:El}{T:TypeId}{fz:Nat × Nat}{k:Value->Prop}(n:Nat)(hb:L[n]?=some (bp,.cells (fl l++zs).toArray T fz))(hx:l[i]?=some x)(hk:k (.agg x.cells.toArray)):LdN h L ⟨bp,0+i*4,none⟩ 4 k:=
 ⟨x.cells,rfl,fun j hj=>by
   rw[bB,bDu];refine Has.own n hb ?_;have hj4:j<4:=hj;have hi:=(bC9.1 hx).1;rw[bD1,bDi (by rw[cU];omega),aEc hx j hj4,bC7,bC8 hj];rfl,hk⟩
theorem aLn{l:List El}{zs:List Value}{i:Nat}(x:El)(h:i<l.length):nY x.cells (fl l++zs) (i*4)=fl (l.set i x)++zs:=by
 rw[<-aR2 x h,jJ _ _ _ (by rw[bC6,cU,x.cells_len];omega),jJ _ _ _ (by rw[cU,x.cells_len];omega)];rw[List.take_append_of_le_length (by rw[cU];omega),bG1 (by rw[cU,x.cells_len];omega),bDb,bDb,bDb]
theorem Sto.el{L:Own}{bp:Nat}{l:List El}{zs:List Value}{i:Nat}{x:El}{T:TypeId}{k:Own->Prop}(n:Nat)(hb:L[n]?=some (bp,.cells (fl l++zs).toArray T (0,0)))(hi:i<l.length)(hk:k (L.set n (bp,.cells (fl (l.set i x)++zs).toArray T (0,0)))):Sto L ⟨bp,0+i*4,none⟩ x.cells k:=by
 refine⟨rfl,n,(fl l++zs).toArray,T,hb,?_,rfl,?_⟩
 .rw[bE6,bC6,cU,x.cells_len];show 0+i*4+4<=_;omega
 .rw[iR];show k (L.set n (bp,.cells (nY x.cells (fl l++zs) (0+i*4)).toArray T (0,0)));rw[bDu,aLn x hi];exact hk
end Go.Vc
/- Lists of terms: two exchanged, runs turned about, runs cut: plain mathematics. -/
namespace Go.Vc
open Go Go.Dig
def leE(x y:El):Prop:=¬dK.lt y.m x.m
abbrev dD (l:List El):Prop:=l.Pairwise leE
theorem aGi(x:El):leE x x:=dK.irr _
theorem xY{a b c:El}(h:leE a b)(g:leE b c):leE a c:=uO (K:=Mon) (V:=Nat) (a:=(a.m,0)) (b:=(b.m,0)) (c:=(c.m,0)) h g
theorem aEd{a b:El}(h:dK.lt a.m b.m):leE a b:=fun x=>dK.irr _ (dK.tra h x)
def pe(x:El):Mon × El:=(x.m,x)
theorem aR3{l:List El}:aGh (l.map pe)↔dD l:=List.pairwise_map
theorem bCz{a1 a2 b1 b2:List El}(ha:dD (a1++a2))(hb:dD (b1++b2))(h1:∀x y,a1.getLast?=some x->b2.head?=some y->leE x y)(h2:∀x y,b1.getLast?=some x->a2.head?=some y->leE x y):
  ∀x∈a1++b1,∀y∈a2++b2,leE x y:=by
 have h:=aR0 (K:=Mon) (V:=El) (a1:=a1.map pe) (a2:=a2.map pe) (b1:=b1.map pe) (b2:=b2.map pe) (by rw[<-bDl];exact aR3.2 ha) (by rw[<-bDl];exact aR3.2 hb)
  (fun x y hx hy=>by
    rw[List.getLast?_map] at hx;rw[List.head?_map] at hy;obtain⟨x',hx',rfl⟩:=Option.map_eq_some_iff.1 hx;obtain⟨y',hy',rfl⟩:=Option.map_eq_some_iff.1 hy;exact h1 x' y' hx' hy')
  (fun x y hx hy=>by
    rw[List.getLast?_map] at hx;rw[List.head?_map] at hy;obtain⟨x',hx',rfl⟩:=Option.map_eq_some_iff.1 hx;obtain⟨y',hy',rfl⟩:=Option.map_eq_some_iff.1 hy;exact h2 x' y' hx' hy')
 intro x hx y hy;exact h (pe x) (by rw[<-bDl];exact bDy hx) (pe y) (by rw[<-bDl];exact bDy hy)
theorem aNx{a1 a2 b1 b2 m1 m2:List El}(h:∀x∈a1++b1,∀y∈a2++b2,leE x y)(o1:dD m1)(o2:dD m2)(p1:m1.Perm (a1++b1))(p2:m2.Perm (a2++b2)):
  dD (m1++m2)/\(m1++m2).Perm ((a1++a2)++(b1++b2)):=by
 refine⟨List.pairwise_append.2 ⟨o1,o2,fun x hx y hy=>h x (p1.mem_iff.1 hx) y (p2.mem_iff.1 hy)⟩,(p1.append p2).trans ?_⟩
 rw[bDb,bDb];refine List.Perm.append_left a1 ?_;rw[<-bDb,<-bDb];exact List.Perm.append_right b2 bFo
/-! exchanging -/
theorem nJ(A:List El)(x:El)(R:List El):(A++x::R)[A.length]?=some x:=by
 rw[bDs (bDx _),bFr];rfl
theorem zW(A:List El)(x:El)(B:List El)(y:El)(C:List El):(A++x::(B++y::C))[A.length+1+B.length]?=some y:=by
 rw[bDs Aa,show A.length+1+B.length-A.length=B.length+1 by omega,bGc]
 exact nJ B y C
theorem aEe(A:List El)(x:El)(B:List El)(y:El)(C:List El):((A++x::(B++y::C)).set A.length y).set (A.length+1+B.length) x=A++y::(B++x::C):=by
 rw[bEo _ _ (bDx _),bFr,List.set_cons_zero,bEo _ _ Aa,show A.length+1+B.length-A.length=B.length+1 by omega,bFj,bEo _ _ (bDx _),bFr,List.set_cons_zero]
theorem aR4(A:List El)(x:El)(B:List El)(y:El)(C:List El):((A++x::(B++y::C)).set (A.length+1+B.length) x).set A.length y=A++y::(B++x::C):=by
 rw[List.set_comm _ _ Aa,aEe]
theorem aR5(X Z Y Q1 P1 P2 Q2:List El)(p q:El)(h:P1.length=Q1.length){a b i:Nat}(ha:a=X.length)(hi:i=P1.length)(hb:b=X.length+(P1.length+1+P2.length)+Z.length):
  (X++(Q1++p::P2)++Z++(P1++q::Q2)++Y)[a+i]?=some p/\(X++(Q1++p::P2)++Z++(P1++q::Q2)++Y)[b+i]?=some q/\
  (((X++(Q1++p::P2)++Z++(P1++q::Q2)++Y).set (a+i) q).set (b+i) p=X++((Q1++[q])++P2)++Z++((P1++[p])++Q2)++Y):=by
 have e:X++(Q1++p::P2)++Z++(P1++q::Q2)++Y=(X++Q1)++p::((P2++Z++P1)++q::(Q2++Y)):=by simp[bDb]
 have e1:a+i=(X++Q1).length:=by rw[bC6];omega
 have e2:b+i=(X++Q1).length+1+(P2++Z++P1).length:=by simp only[bC6];omega
 rw[e,e1,e2];refine⟨nJ _ _ _,zW _ _ _ _ _,?_⟩;rw[aEe];simp[bDb]
theorem aZe{L R:List El}(oL:dD L)(oR:dD R){s t:Nat}(hs:s<=L.length)(ht:t<=R.length)(h1:∀x y,0<s->L[s-1]?=some x->R[t]?=some y->leE x y)(h2:∀x y,0<t->R[t-1]?=some x->L[s]?=some y->leE x y):
  ∀x∈L.take s++R.take t,∀y∈L.drop s++R.drop t,leE x y:=by
 have last:∀(l:List El) (n:Nat) (x:El),n<=l.length->(l.take n).getLast?=some x->0<n/\l[n-1]?=some x:=fun l n x hn h=>by
  rw[List.getLast?_eq_getElem?,bDr,bFb,bE9 hn] at h
  split at h
  .exact⟨Aa,h⟩
  .cases h
 have first:∀(l:List El) (n:Nat) (y:El),(l.drop n).head?=some y->l[n]?=some y:=fun l n y h=>by rw[List.head?_drop] at h;exact h
 refine bCz (by rw[bDo];exact oL) (by rw[bDo];exact oR) (fun x y hx hy=>?_) (fun x y hx hy=>?_)
 .obtain⟨h0,hx'⟩:=last L s x hs hx;exact h1 x y h0 hx' (first R t y hy)
 .obtain⟨h0,hx'⟩:=last R t x ht hx;exact h2 x y h0 hx' (first L s y hy)
theorem aLo{l:List El}(h:dD l){i j:Nat}{x y:El}(hij:i<=j)(hx:l[i]?=some x)(hy:l[j]?=some y):leE x y:=by
 by_cases e:i=j
 .subst e;rw[hx] at hy;cases hy;exact aGi x
 .obtain⟨h1,rfl⟩:=bC9.1 hx;obtain⟨h2,rfl⟩:=bC9.1 hy;exact (List.pairwise_iff_getElem.1 h) i j h1 h2 Aa
theorem aWd{R:List El}(o:dD R){e:El}{t:Nat}(h1:∀i x,i<t->R[i]?=some x->leE x e)(h2:∀i x,t<=i->R[i]?=some x->leE e x):dD (R.take t++e::R.drop t):=by
 refine List.pairwise_append.2 ⟨o.sublist (List.take_sublist ..),List.pairwise_cons.2 ⟨fun y hy=>?_,o.sublist (List.drop_sublist ..)⟩,fun x hx y hy=>?_⟩
 .obtain⟨i,hi,rfl⟩:=List.mem_iff_getElem.1 hy;exact h2 (t+i) _ Aa (by rw[<-bF5];exact bC8 hi)
 .obtain⟨i,hi,rfl⟩:=List.mem_iff_getElem.1 hx;have hi':=hi;rw[bDr] at hi';have hxe:R[i]?=some ((R.take t)[i]):=by rw[bHt];exact bC8 Aa
  have g1:=h1 i _ Aa hxe;rcases bDp.1 hy with rfl|hy
  .exact g1
  .obtain⟨j,hj,rfl⟩:=List.mem_iff_getElem.1 hy;exact xY g1 (h2 (t+j) _ Aa (by rw[<-bF5];exact bC8 hj))
end Go.Vc