/- Texts as rows of bytes: their order; cells written at a place. -/
import Derived.Test.YtiohcpiloenmoaaGreatDoorE4
set_option linter.all false
namespace Go.Vc
open Go Go.Dig
theorem blt_eq:∀x y:List UInt8,Op.bytesLess x y=decide (x<y)
 | [],[]=>by simp[Op.bytesLess]
 | _::_,[]=>by simp[Op.bytesLess]
 | [],_::_=>by simp[Op.bytesLess]
 | a::x,b::y=>by
  simp only[Op.bytesLess,blt_eq x y,List.cons_lt_cons_iff];by_cases h2:a=b
  .by_cases h1:a<b<;>simp[h1,h2]
  .by_cases h1:a<b<;>simp[h1,h2]
theorem gG(x:List UInt8):(⟨x.toArray⟩:ByteArray).toList=x:=by rw[ByteArray.toList_eq]
theorem aSw{x y:List UInt8}{p q:Prop}(hp:x<y->p)(hq:¬x<y->q):cnd (slt ⟨x.toArray⟩ ⟨y.toArray⟩) p q:=by
 unfold slt;rw[gG,gG,blt_eq];by_cases h:x<y
 .rw[decide_eq_true h];exact hp h
 .rw[decide_eq_false h];exact hq h
theorem aVk{x y:List UInt8}{p q:Prop}(hp:x=y->p)(hq:x≠y->q):cnd (seq ⟨x.toArray⟩ ⟨y.toArray⟩) p q:=by
 refine aA9 (fun h=>hp ?_) (fun h=>hq fun e=>h (by rw[e]))
 have:=congrArg ByteArray.toList h
 rwa [gG,gG] at this
theorem jC:∀(vs l:List Value) (o:Nat),o+vs.length<=l.length->kL vs l o=l.take o++vs++l.drop (o+vs.length)
 | [],l,o,_=>by simp[kL]
 | v::vs,l,o,h=>by
  rw[aY6] at h;rw[kL,jC vs (l.set o v) (o+1) (by rw[bBf];omega)];rw[List.take_set,List.drop_set_of_lt Aa,aY6,show o+1+vs.length=o+(vs.length+1) by omega]
  have:(List.take (o+1) l).set o v=l.take o++[v]:=by
   rw[bDb,aY4 Aa];rw[bAj _ _ (by rw[aZn];omega)];simp[aZn,bAz (show o<=l.length by omega)]
  rw[this];simp
end Go.Vc
/- Sums over sorted lists of pR: plain mathematics. -/
namespace Go.Dig
class dM (K:Type) where
 lt:K->K->Prop
 dec:∀a b,Decidable (lt a b)
 irr:∀a,¬lt a a
 tra:∀{a b c},lt a b->lt b c->lt a c
 tri:∀a b,lt a b\/a=b\/lt b a
instance {K:Type} [dM K] (a b:K):Decidable (dM.lt a b):=dM.dec a b
class gC (V:Type) [Add V] [OfNat V 0]:Prop where
 zero_add:∀a:V,0+a=a
 add_zero:∀a:V,a+0=a
 add_comm:∀a b:V,a+b=b+a
 add_assoc:∀a b c:V,a+b+c=a+(b+c)
instance:gC Nat:=⟨aZq,bAg,bCu,bA6⟩
instance:gC Rat:=⟨Rat.zero_add,Rat.add_zero,Rat.add_comm,Rat.add_assoc⟩
section
variable {K V:Type} [dM K] [DecidableEq K] [Add V] [OfNat V 0] [gC V] [DecidableEq V]
def cf(l:List (K × V))(k:K):V:=l.foldr (fun t s=>if t.1=k then t.2+s else s) 0
omit [dM K] [gC V] [DecidableEq V] in
theorem pQ(k:K):cf ([]:List (K × V)) k=0:=rfl
omit [dM K] [gC V] [DecidableEq V] in
theorem aR(t:K × V)(l:List (K × V))(k:K):cf (t::l) k=if t.1=k then t.2+cf l k else cf l k:=rfl
omit [dM K] [DecidableEq V] in
theorem jD(k:K):∀a b:List (K × V),cf (a++b) k=cf a k+cf b k
 | [],b=>(gC.zero_add _).symm
 | t::a,b=>by
  rw[bAk,aR,aR,jD k a b]
  split
  .rw[gC.add_assoc]
  .rfl
def mO(k:K)(v:V):List (K × V)->List (K × V)
 | []=>[(k,v)]
 | (n,d)::q=>if dM.lt k n then (k,v)::(n,d)::q else if k=n then (n,v+d)::q else (n,d)::mO k v q
omit [DecidableEq V] in
theorem aOt(k:K)(v:V)(z:K):∀l:List (K × V),cf (mO k v l) z=(if k=z then v else 0)+cf l z
 | []=>by
  unfold mO;rw[aR,pQ]
  split
  .rfl
  .rw[gC.add_zero]
 | (n,d)::q=>by
  unfold mO
  split
  .rw[aR]
   split
   .rfl
   .rw[gC.zero_add]
  .split
   .rename_i h;subst h;rw[aR,aR]
    split
    .rw[gC.add_assoc]
    .rw[gC.zero_add]
   .rw[aR,aR,aOt k v z q]
    split
    .rw[<-gC.add_assoc,<-gC.add_assoc,gC.add_comm d]
    .rfl
abbrev tY (l:List (K × V)):Prop:=l.Pairwise fun s t=>dM.lt s.1 t.1
omit [OfNat V 0] [gC V] [DecidableEq V] in
theorem aIe{k:K}{v:V}{x:K}:∀{l:List (K × V)},(∀t∈l,dM.lt x t.1)->dM.lt x k->∀t∈mO k v l,dM.lt x t.1
 | [],_,hk,t,ht=>by
  unfold mO at ht;rw[aZg] at ht;subst ht;exact hk
 | (n,d)::q,h,hk,t,ht=>by
  unfold mO at ht
  split at ht
  .rcases aZl.1 ht with rfl|ht
   .exact hk
   .exact h t ht
  .split at ht
   .rcases aZl.1 ht with rfl|ht
    .exact h (n,d) (aZa ..)
    .exact h t (aZd _ ht)
   .rcases aZl.1 ht with rfl|ht
    .exact h (n,d) (aZa ..)
    .exact aIe (fun t ht=>h t (aZd _ ht)) hk t ht
omit [OfNat V 0] [gC V] [DecidableEq V] in
theorem aIf{k:K}{v:V}:∀{l:List (K × V)},tY l->tY (mO k v l)
 | [],_=>List.pairwise_cons.2 ⟨fun _ h=>(by simp at h),List.Pairwise.nil⟩
 | (n,d)::q,h=>by
  have h':=List.pairwise_cons.1 h;unfold mO
  split
  .rename_i hlt;refine List.pairwise_cons.2 ⟨fun t ht=>?_,h⟩
   rcases aZl.1 ht with rfl|ht
   .exact hlt
   .exact dM.tra hlt (h'.1 t ht)
  .rename_i hlt
   split
   .exact List.pairwise_cons.2 ⟨h'.1,h'.2⟩
   .rename_i hne;have hnk:dM.lt n k:=by
     rcases dM.tri k n with x|x|x
     .exact absurd x hlt
     .exact absurd x hne
     .exact x
    exact List.pairwise_cons.2 ⟨aIe h'.1 hnk,aIf h'.2⟩
def sM(l:List (K × V)):List (K × V):=l.foldr (fun t q=>mO t.1 t.2 q) []
def fP(l:List (K × V)):List (K × V):=(sM l).filter fun t=>!decide (t.2=0)
def aGs(l:List (K × V)):Prop:=tY l/\∀t∈l,t.2≠0
omit [OfNat V 0] [gC V] [DecidableEq V] in
theorem aB7:∀l:List (K × V),tY (sM l)
 | []=>List.Pairwise.nil
 | _::l=>aIf (aB7 l)
omit [DecidableEq V] in
theorem aGt(z:K):∀l:List (K × V),cf (sM l) z=cf l z
 | []=>rfl
 | t::l=>by
  show cf (mO t.1 t.2 (sM l)) z=_
  rw[aOt,aGt z l,aR]
  split
  .rfl
  .rw[gC.zero_add]
omit [dM K] in
theorem nH(z:K):∀l:List (K × V),cf (l.filter fun t=>!decide (t.2=0)) z=cf l z
 | []=>rfl
 | t::l=>by
  by_cases h:t.2=0
  .rw[List.filter_cons_of_neg (by simp[h]),nH z l,aR]
   split
   .rw[h,gC.zero_add]
   .rfl
  .rw[List.filter_cons_of_pos (by simp[h]),aR,aR,nH z l]
theorem sN(l:List (K × V)):aGs (fP l):=
 ⟨(aB7 l).filter _,fun t ht=>by have:=(List.mem_filter.1 ht).2;simpa using this⟩
theorem aB8(l:List (K × V))(z:K):cf (fP l) z=cf l z:=by unfold fP;rw[nH,aGt]
omit [gC V] [DecidableEq V] in
theorem nI{l:List (K × V)}{k:K}(h:∀t∈l,dM.lt k t.1):cf l k=0:=by
 induction l with
 | nil=>rfl
 | cons t l ih=>
  rw[aR,if_neg (fun e=>by subst e;exact dM.irr _ (h t (aZa ..)))]
  exact ih fun u hu=>h u (aZd _ hu)
omit [DecidableEq V] in
theorem rM:∀{l:List (K × V)} {t:K × V},tY l->t∈l->cf l t.1=t.2
 | u::l,t,h,ht=>by
  have h':=List.pairwise_cons.1 h;rcases aZl.1 ht with rfl|ht
  .rw[aR,if_pos rfl,nI h'.1,gC.add_zero]
  .rw[aR,if_neg (fun e=>by have:=h'.1 t ht;rw[e] at this;exact dM.irr _ this)]
   exact rM h'.2 ht
omit [gC V] [DecidableEq V] [dM K] in
theorem aB9{l:List (K × V)}{k:K}(h:∀t∈l,t.1≠k):cf l k=0:=by
 induction l with
 | nil=>rfl
 | cons t l ih=>
  rw[aR,if_neg (h t (aZa ..))];exact ih fun u hu=>h u (aZd _ hu)
omit [DecidableEq V] in
theorem vP:∀{a b:List (K × V)},aGs a->aGs b->(∀k,cf a k=cf b k)->a=b
 | [],[],_,_,_=>rfl
 | [],t::b,_,hb,h=>by
  have:=h t.1;rw[pQ,rM hb.1 (aZa ..)] at this;exact absurd this.symm (hb.2 t (aZa ..))
 | t::a,[],ha,_,h=>by
  have:=h t.1;rw[pQ,rM ha.1 (aZa ..)] at this;exact absurd this (ha.2 t (aZa ..))
 | (m,c)::a,(n,d)::b,ha,hb,h=>by
  have ha':=List.pairwise_cons.1 ha.1;have hb':=List.pairwise_cons.1 hb.1;have hmn:m=n:=by
   rcases dM.tri m n with x|x|x
   .have:=h m;rw[rM ha.1 (aZa ..),nI (fun t ht=>by
      rcases aZl.1 ht with rfl|ht
      .exact x
      .exact dM.tra x (hb'.1 t ht))] at this
    exact absurd this (ha.2 _ (aZa ..))
   .exact x
   .have:=h n;rw[rM hb.1 (t:=(n,d)) (aZa ..),nI (fun t ht=>by
      rcases aZl.1 ht with rfl|ht
      .exact x
      .exact dM.tra x (ha'.1 t ht))] at this
    exact absurd this.symm (hb.2 _ (aZa ..))
  subst hmn;have hcd:c=d:=by
   have:=h m
   rwa [rM ha.1 (t:=(m,c)) (aZa ..),rM hb.1 (t:=(m,d)) (aZa ..)] at this
  subst hcd;refine congrArg _ (vP ⟨ha'.2,fun t ht=>ha.2 t (aZd _ ht)⟩ ⟨hb'.2,fun t ht=>hb.2 t (aZd _ ht)⟩ fun k=>?_)
  by_cases e:m=k
  .subst e;rw[nI ha'.1,nI hb'.1]
  .have:=h k
   rwa [aR,aR,if_neg e,if_neg e] at this
theorem aOu{a:List (K × V)}(h:aGs a):fP a=a:=vP (sN a) h fun k=>aB8 a k
end
def sm{K:Type}(f:K->Rat)(l:List (K × Rat)):Rat:=l.foldr (fun t s=>t.2*f t.1+s) 0
section
variable {K:Type} (f g:K->Rat)
variable [dM K] [DecidableEq K]
end
end Go.Dig
/- Products of atoms with exponents, names against their inverses: plain mathematics. -/
namespace Go.Dig
theorem oF(a b:List UInt8):a<b\/a=b\/b<a:=by
 by_cases h:a<b
 .exact .inl h
 .by_cases h':b<a
  .exact .inr (.inr h')
  .exact .inr (.inl (List.le_antisymm (List.not_lt.1 h') (List.not_lt.1 h)))
instance:dM (List UInt8):=⟨fun a b=>a<b,fun _ _=>inferInstance,fun a=>bCd a,fun h k=>bC8 h k,oF⟩
abbrev Fac:Type:=List UInt8 × Nat
abbrev Mon:Type:=List Fac
def ltF:Mon->Mon->Prop
 | [],[]=>False
 | [],_::_=>True
 | _::_,[]=>False
 | (x,i)::a,(y,j)::b=>x<y\/x=y/\(i<j\/i=j/\ltF a b)
def aOv:(a b:Mon)->Decidable (ltF a b)
 | [],[]=>by unfold ltF;exact inferInstance
 | [],_::_=>by unfold ltF;exact inferInstance
 | _::_,[]=>by unfold ltF;exact inferInstance
 | (x,i)::a,(y,j)::b=>by
  unfold ltF;have:=aOv a b;exact inferInstance
theorem aIg:∀a:Mon,¬ltF a a
 | []=>id
 | (x,i)::a=>by
  unfold ltF
  rintro (h|⟨-,h|⟨-,h⟩⟩)
  .exact bCd _ h
  .exact Nat.lt_irrefl _ h
  .exact aIg a h
theorem aIh:∀{a b c:Mon},ltF a b->ltF b c->ltF a c
 | [],[],_,h,_=>h.elim
 | [],_::_,[],_,h=>h.elim
 | [],_::_,_::_,_,_=>trivial
 | _::_,[],_,h,_=>h.elim
 | _::_,_::_,[],_,h=>h.elim
 | (x,i)::a,(y,j)::b,(z,k)::c,h,g=>by
  unfold ltF at h g ⊢;rcases h with h|⟨rfl,h⟩
  .rcases g with g|⟨rfl,-⟩
   .exact .inl (bC8 h g)
   .exact .inl h
  .rcases g with g|⟨rfl,g⟩
   .exact .inl g
   .refine .inr ⟨rfl,?_⟩;rcases h with h|⟨rfl,h⟩
    .rcases g with g|⟨rfl,-⟩
     .exact .inl (bDf h g)
     .exact .inl h
    .rcases g with g|⟨rfl,g⟩
     .exact .inl g
     .exact .inr ⟨rfl,aIh h g⟩
theorem aIi:∀a b:Mon,ltF a b\/a=b\/ltF b a
 | [],[]=>.inr (.inl rfl)
 | [],_::_=>.inl trivial
 | _::_,[]=>.inr (.inr trivial)
 | (x,i)::a,(y,j)::b=>by
  unfold ltF;rcases oF x y with h|rfl|h
  .exact .inl (.inl h)
  .rcases Nat.lt_trichotomy i j with h|rfl|h
   .exact .inl (.inr ⟨rfl,.inl h⟩)
   .rcases aIi a b with h|rfl|h
    .exact .inl (.inr ⟨rfl,.inr ⟨rfl,h⟩⟩)
    .exact .inr (.inl rfl)
    .exact .inr (.inr (.inr ⟨rfl,.inr ⟨rfl,h⟩⟩))
   .exact .inr (.inr (.inr ⟨rfl,.inl h⟩))
  .exact .inr (.inr (.inl h))
instance:dM Mon:=⟨ltF,aOv,aIg,fun h k=>aIh h k,aIi⟩
def nmA(s:List UInt8):Prop:=dH (s.map UInt8.toNat)
instance (s:List UInt8):Decidable (nmA s):=by unfold nmA;exact inferInstance
def iS:List UInt8:=[49,32,47,32]
def inv(s:List UInt8):Option (List UInt8):=if nmA s then some (iS++s) else if 4<s.length/\s.take 4=iS/\nmA (s.drop 4) then some (s.drop 4) else none
theorem aSx(s:List UInt8):¬nmA (iS++s):=fun h=>by
 have h2:=h.2.1;have:eE ((iS++s).map UInt8.toNat)=0:=rfl;rw[this] at h2;simp[iS] at h2
theorem aSy{s:List UInt8}(h:nmA s):0<s.length:=by
 have:=h.2.2.1;cases s with
 | nil=>exact absurd rfl this
 | cons _ _=>exact Nat.succ_pos _
theorem aSz{s u:List UInt8}(h:inv s=some u):inv u=some s:=by
 unfold inv at h
 split at h
 .rename_i hn;cases h;have hp:=aSy hn;unfold inv;rw[if_neg (aSx s),if_pos ⟨by simp[iS];omega,rfl,hn⟩];rfl
 .split at h
  .rename_i hn;cases h;unfold inv;rw[if_pos hn.2.2,<-hn.2.1,aZk]
  .cases h
def rv(l:Mon)(s:List UInt8):Nat:=match inv s with
 | some u=>cf l u
 | none=>0
def jn(a b:Mon):Mon:=fP ((sM (a++b)).map fun t=>(t.1,t.2-min t.2 (rv (a++b) t.1)))
theorem aVl{q:Mon}(g:List UInt8->Nat->Nat)(hg:∀s,g s 0=0)(h:tY q)(s:List UInt8):cf (q.map fun t=>(t.1,g t.1 t.2)) s=g s (cf q s):=by
 induction q with
 | nil=>exact (hg s).symm
 | cons t q ih=>
  have h':=List.pairwise_cons.1 h;rw[bAa,aR,aR,ih h'.2]
  split
  .rename_i e;subst e;rw[nI h'.1,hg];rfl
  .rfl
theorem aOw(a b:Mon)(s:List UInt8):cf (jn a b) s=cf a s+cf b s-min (cf a s+cf b s) (rv (a++b) s):=by
 unfold jn;rw[aB8,aVl (fun s n=>n-min n (rv (a++b) s)) (fun s=>Nat.zero_sub _) (aB7 _),aGt,jD]
theorem aOx(a b:Mon)(s:List UInt8):rv (a++b) s=rv a s+rv b s:=by
 unfold rv;cases inv s with
 | none=>rfl
 | some u=>exact jD u a b
theorem aOy(a b:Mon):aGs (jn a b):=sN _
theorem aXv(a b:Mon)(s:List UInt8):rv (jn a b) s=rv a s+rv b s-min (rv a s+rv b s) (cf a s+cf b s)\/inv s=none:=by
 cases h:inv s with
 | none=>exact .inr rfl
 | some u=>
  left
  have e:∀m:Mon,rv m s=cf m u:=fun m=>by unfold rv;rw[h]
  have e':∀m:Mon,rv m u=cf m s:=fun m=>by unfold rv;rw[aSz h]
  rw[e,e,e,aOw,aOx,e',e']
theorem aS0{s:List UInt8}(h:inv s=none)(m:Mon):rv m s=0:=by unfold rv;rw[h]
def yW(m:Mon):Prop:=aGs m/\∀s,cf m s=0\/rv m s=0
theorem aVm(a b:Mon):yW (jn a b):=⟨aOy a b,fun s=>by
  rw[aOw,aOx];rcases aXv a b s with h|h
  .rw[h];omega
  .exact .inr (aS0 h _)⟩
theorem aCa:yW []:=⟨⟨List.Pairwise.nil,fun _ h=>(by simp at h)⟩,fun _=>.inl rfl⟩
theorem aS1(s:List UInt8):yW [(s,1)]:=by
 refine⟨⟨List.pairwise_cons.2 ⟨fun _ h=>(by simp at h),List.Pairwise.nil⟩,fun t h=>by rw[aZg] at h;subst h;exact Nat.one_ne_zero⟩,fun z=>?_⟩
 by_cases e:s=z
 .subst e
  right
  unfold rv;cases h:inv s with
  | none=>rfl
  | some u=>
   show cf [(s,1)] u=0
   have hne:s≠u:=fun e=>?_
   .rw[aR,if_neg hne];rfl
   subst e;unfold inv at h
   split at h
   .have:=congrArg List.length (Option.some.inj h);simp[iS] at this;omega
   .split at h
    .rename_i hn;have:=congrArg List.length (Option.some.inj h);rw[aZz] at this;omega
    .cases h
 .left
  rw[aR,if_neg e];rfl
end Go.Dig
/- Products as the document forms them: two rows laid together, then names against their inverses; orders of monomials as numbers: plain mathematics. -/
namespace Go.Dig
def lI(a b:Mon):Int:=if dM.lt a b then -1 else if a=b then 0 else 1
theorem aOz:lI [] []=0:=rfl
theorem aVn(t:Fac)(b:Mon):lI [] (t::b)=-1:=if_pos trivial
theorem aVo(t:Fac)(a:Mon):lI (t::a) []=1:=by
 unfold lI;rw[if_neg (show ¬dM.lt (K:=Mon) (t::a) [] from fun h=>h),if_neg Ar]
theorem aKo(x y:List UInt8)(i j:Nat)(a b:Mon):lI ((x,i)::a) ((y,j)::b)=if x<y then -1 else if y<x then 1 else if i<j then -1 else if j<i then 1 else lI a b:=by
 have hd:dM.lt (K:=Mon) ((x,i)::a) ((y,j)::b)↔(x<y\/x=y/\(i<j\/i=j/\ltF a b)):=Iff.rfl;unfold lI;by_cases h1:x<y
 .rw[if_pos (hd.2 (.inl h1)),if_pos h1]
 .rw[if_neg h1];by_cases h2:y<x
  .have hne:x≠y:=fun e=>by subst e;exact bCd _ h2
   rw[if_pos h2,if_neg (fun h=>(hd.1 h).elim h1 fun g=>hne g.1),if_neg (fun e=>hne (by injection e with e;injection e))]
  .rw[if_neg h2];obtain rfl:x=y:=by
    rcases oF x y with h|h|h
    .exact absurd h h1
    .exact h
    .exact absurd h h2
   by_cases h3:i<j
   .rw[if_pos (hd.2 (.inr ⟨rfl,.inl h3⟩)),if_pos h3]
   .rw[if_neg h3];by_cases h4:j<i
    .rw[if_pos h4,if_neg (fun h=>(hd.1 h).elim h1 fun g=>g.2.elim h3 fun g=>by omega),if_neg (fun e=>by injection e with e;injection e with _ e;omega)]
    .rw[if_neg h4];obtain rfl:i=j:=Aa;have e1:dM.lt (K:=Mon) ((x,i)::a) ((x,i)::b)↔dM.lt a b:=⟨fun h=>(hd.1 h).elim (fun g=>absurd g h1) fun g=>g.2.elim (fun g=>absurd g h3) fun g=>g.2,fun h=>hd.2 (.inr ⟨rfl,.inr ⟨rfl,h⟩⟩)⟩
     by_cases h5:dM.lt a b
     .rw[if_pos (e1.2 h5),if_pos h5]
     .rw[if_neg (fun h=>h5 (e1.1 h)),if_neg h5]
      by_cases h6:a=b
      .rw[if_pos (by rw[h6]),if_pos h6]
      .rw[if_neg (fun e=>h6 (by injection e)),if_neg h6]
theorem kG{a b:Mon}:lI a b<0↔dM.lt a b:=by
 unfold lI
 split
 .rename_i h;exact⟨fun _=>h,fun _=>by decide⟩
 .rename_i h
  split<;>exact⟨fun x=>absurd x Ag,fun x=>absurd x h⟩
theorem aAk{a b:Mon}:lI a b=0↔a=b:=by
 unfold lI
 split
 .rename_i h;exact⟨fun x=>absurd x Ag,fun e=>by subst e;exact absurd h (dM.irr _)⟩
 .split
  .rename_i h;exact⟨fun _=>h,fun _=>rfl⟩
  .rename_i h;exact⟨fun x=>absurd x Ag,fun x=>absurd x h⟩
end Go.Dig
/- Lists in order, put together; like terms added up: plain mathematics. -/
namespace Go.Dig
section
variable {K V:Type} [dM K] [DecidableEq K] [Add V] [OfNat V 0] [gC V] [DecidableEq V]
def leK(s t:K × V):Prop:=¬dM.lt t.1 s.1
abbrev aEg (l:List (K × V)):Prop:=l.Pairwise leK
omit [DecidableEq K] [Add V] [OfNat V 0] [gC V] [DecidableEq V] in
theorem sO{a b c:K × V}(h:leK a b)(g:leK b c):leK a c:=fun x=>by
 rcases dM.tri a.1 b.1 with y|y|y
 .exact g (dM.tra x y)
 .exact g (by rw[<-y];exact x)
 .exact h y
omit [DecidableEq K] [Add V] [OfNat V 0] [gC V] [DecidableEq V] in
theorem aO0{a1 a2 b1 b2:List (K × V)}(ha:aEg (a1++a2))(hb:aEg (b1++b2))
  (h1:∀x y,a1.getLast?=some x->b2.head?=some y->leK x y) (h2:∀x y,b1.getLast?=some x->a2.head?=some y->leK x y):
  ∀x∈a1++b1,∀y∈a2++b2,leK x y:=by
 have ha':=List.pairwise_append.1 ha;have hb':=List.pairwise_append.1 hb;have top:∀{l:List (K × V)} {x:K × V},aEg l->x∈l->∃z,l.getLast?=some z/\(leK x z):=by
  intro l x hl hx;obtain⟨z,hz⟩:∃z,l.getLast?=some z:=by
   cases h:l.getLast? with
   | none=>rw[List.getLast?_eq_none_iff] at h;subst h;simp at hx
   | some z=>exact⟨z,rfl⟩
  refine⟨z,hz,?_⟩;obtain⟨r,rfl⟩:=List.getLast?_eq_some_iff.1 hz;rcases aZb.1 hx with hx|hx
  .exact (List.pairwise_append.1 hl).2.2 x hx z (aZg.2 rfl)
  .rw[aZg] at hx;subst hx;exact dM.irr _
 have bot:∀{l:List (K × V)} {x:K × V},aEg l->x∈l->∃z,l.head?=some z/\(leK z x):=by
  intro l x hl hx;cases l with
  | nil=>simp at hx
  | cons z l=>
   refine⟨z,rfl,?_⟩;rcases aZl.1 hx with rfl|hx
   .exact dM.irr _
   .exact (List.pairwise_cons.1 hl).1 x hx
 intro x hx y hy;rcases aZb.1 hx with hx|hx
 .rcases aZb.1 hy with hy|hy
  .exact ha'.2.2 x hx y hy
  .obtain⟨z,hz,e1⟩:=top ha'.1 hx;obtain⟨u,hu,e2⟩:=bot hb'.2.1 hy;exact sO (sO e1 (h1 z u hz hu)) e2
 .rcases aZb.1 hy with hy|hy
  .obtain⟨z,hz,e1⟩:=top hb'.1 hx;obtain⟨u,hu,e2⟩:=bot ha'.2.1 hy;exact sO (sO e1 (h2 z u hz hu)) e2
  .exact hb'.2.2 x hx y hy
omit [dM K] [DecidableEq V] in
theorem aIj{a b:List (K × V)}(h:a.Perm b)(k:K):cf a k=cf b k:=by
 induction h with
 | nil=>rfl
 | cons x _ ih=>rw[aR,aR,ih]
 | swap x y l=>
  rw[aR,aR,aR,aR]
  split<;>split
  .rw[<-gC.add_assoc,<-gC.add_assoc,gC.add_comm y.2]
  all_goals rfl
 | trans _ _ h1 h2=>exact h1.trans h2
def grS(out:List (K × V))(t:K × V):List (K × V):=match out.getLast? with
 | some u=>if u.1=t.1 then out.dropLast++[(u.1,u.2+t.2)] else out++[t]
 | none=>out++[t]
omit [dM K] [DecidableEq V] in
theorem aXw(out:List (K × V))(t:K × V)(z:K):cf (grS out t) z=cf out z+cf [t] z:=by
 unfold grS;cases h:out.getLast? with
 | none=>exact jD z _ _
 | some u=>
  obtain⟨r,rfl⟩:=List.getLast?_eq_some_iff.1 h;show cf (if u.1=t.1 then _ else _) z=_
  split
  .rename_i e;rw[List.dropLast_concat,jD,jD,gC.add_assoc]
   congr 1
   rw[aR,aR,aR,<-e,pQ];show (if u.1=z then _ else _)=_
   split
   .rw[gC.add_zero,gC.add_zero,gC.add_zero]
   .rw[gC.add_zero]
  .exact jD z _ _
omit [OfNat V 0] [gC V] [DecidableEq V] in
theorem aVp{out:List (K × V)}{t:K × V}(h:tY out)(ht:∀u∈out,leK u t):tY (grS out t)/\∀v,(∀u∈out,leK u v)->leK t v->∀u∈grS out t,leK u v:=by
 unfold grS;cases hl:out.getLast? with
 | none=>
  rw[List.getLast?_eq_none_iff] at hl;subst hl;exact⟨List.pairwise_cons.2 ⟨fun _ x=>(by simp at x),List.Pairwise.nil⟩,fun v _ h2 u hu=>by rw[bAi,aZg] at hu;subst hu;exact h2⟩
 | some x=>
  obtain⟨r,rfl⟩:=List.getLast?_eq_some_iff.1 hl;have h':=List.pairwise_append.1 h;show tY (if x.1=t.1 then _ else _)/\_
  split
  .rename_i e;rw[List.dropLast_concat];refine⟨List.pairwise_append.2 ⟨h'.1,List.pairwise_cons.2 ⟨fun _ x=>(by simp at x),List.Pairwise.nil⟩,fun a ha b hb=>?_⟩,fun v h1 _ u hu=>?_⟩
   .rw[aZg] at hb;subst hb;exact h'.2.2 a ha x (aZg.2 rfl)
   .have hu:u∈(if x.1=t.1 then r++[(x.1,x.2+t.2)] else r++[x]++[t]):=hu
    rw[if_pos e] at hu;rcases aZb.1 hu with hu|hu
    .exact h1 u (aZv _ hu)
    .rw[aZg] at hu;subst hu;exact h1 x (aZw _ (aZg.2 rfl))
  .rename_i e;refine⟨List.pairwise_append.2 ⟨h,List.pairwise_cons.2 ⟨fun _ x=>(by simp at x),List.Pairwise.nil⟩,fun a ha b hb=>?_⟩,fun v h1 h2 u hu=>?_⟩
   .rw[aZg] at hb;subst hb;have hxt:dM.lt x.1 b.1:=by
     rcases dM.tri x.1 b.1 with y|y|y
     .exact y
     .exact absurd y e
     .exact absurd y (ht x (aZw _ (aZg.2 rfl)))
    rcases aZb.1 ha with ha|ha
    .exact dM.tra (h'.2.2 a ha x (aZg.2 rfl)) hxt
    .rw[aZg] at ha;subst ha;exact hxt
   .have hu:u∈(if x.1=t.1 then (r++[x]).dropLast++[(x.1,x.2+t.2)] else r++[x]++[t]):=hu
    rw[if_neg e] at hu;rcases aZb.1 hu with hu|hu
    .exact h1 u hu
    .rw[aZg] at hu;subst hu;exact h2
theorem aIk:∀(l out:List (K × V)),tY out->aEg l->(∀u∈out,∀t∈l,leK u t)->tY (l.foldl grS out)/\∀z,cf (l.foldl grS out) z=cf out z+cf l z
 | [],out,h,_,_=>⟨h,fun z=>(gC.add_zero _).symm⟩
 | t::l,out,h,hl,ho=>by
  have hl':=List.pairwise_cons.1 hl;obtain⟨g1,g2⟩:=aVp h fun u hu=>ho u hu t (aZa ..)
  obtain⟨r1,r2⟩:=aIk l (grS out t) g1 hl'.2 fun u hu v hv=>g2 v (fun w hw=>ho w hw v (aZd _ hv)) (hl'.1 v hv) u hu
  refine⟨r1,fun z=>?_⟩
  rw[List.foldl_cons,r2,aXw,gC.add_assoc]
  congr 1
  rw[<-jD];rfl
theorem aS2{l l':List (K × V)}(hp:l'.Perm l)(ho:aEg l'):(l'.foldl grS []).filter (fun t=>!decide (t.2=0))=fP l:=by
 obtain⟨h1,h2⟩:=aIk l' [] List.Pairwise.nil ho (fun u hu=>by simp at hu)
 refine vP ⟨h1.filter _,fun t ht=>?_⟩ (sN l) fun k=>?_
 .have:=(List.mem_filter.1 ht).2
  simpa using this
 .rw[nH,h2,aB8,pQ,gC.zero_add,aIj hp]
end
end Go.Dig
/- Rows of terms in own memory: an element read, an element written. -/
namespace Go.Vc
open Go Go.Dig
structure El where
 neg:Bool
 n:Sl
 d:Sl
 f:Sl
 m:Mon
 q:Rat
def El.cells(x:El):List Value:=[.bool x.neg,.slice x.n.a x.n.l x.n.c,.slice x.d.a x.d.l x.d.c,.slice x.f.a x.f.l x.f.c]
def fl(l:List El):List Value:=l.flatMap El.cells
theorem El.cells_len(x:El):x.cells.length=4:=rfl
theorem cY:∀l:List El,(fl l).length=l.length*4
 | []=>rfl
 | x::l=>by
  show (x.cells++fl l).length=_
  rw[aY2,cY l,x.cells_len,aY6];omega
theorem aO1(a b:List El):fl (a++b)=fl a++fl b:=List.flatMap_append
theorem aCb{l:List El}{i:Nat}{x:El}(h:l[i]?=some x)(k:Nat)(hk:k<4):(fl l)[i*4+k]?=x.cells[k]?:=by
 induction l generalizing i with
 | nil=>simp at h
 | cons y l ih=>
  show (y.cells++fl l)[i*4+k]?=_
  cases i with
  | zero=>
   simp at h;subst h;rw[bAs,aZq,aZe (by rw[y.cells_len];exact hk)]
  | succ i=>
   rw[aZo (by rw[y.cells_len];omega),y.cells_len,show (i+1)*4+k-4=i*4+k by omega]
   exact ih (by simpa using h)
theorem aO2:∀{l:List El} {i:Nat} (x:El),i<l.length->kL x.cells (fl l) (i*4)=fl (l.set i x)
 | y::l,0,x,_=>by
  rw[jC _ _ _ (by rw[cY,x.cells_len,aY6];omega)];show List.take (0*4) (fl (y::l))++x.cells++List.drop (0*4+4) (y.cells++fl l)=x.cells++fl l;rw[bAs,bAt,bAi,aZq,bBq (by rw[y.cells_len];exact aZt _),bCa (by rw[y.cells_len];exact aZt _),bAi]
 | y::l,i+1,x,h=>by
  have ih:=aO2 (l:=l) (i:=i) x (by simpa using h);have hlen:i*4+x.cells.length<=(fl l).length:=by rw[cY,x.cells_len];have:i<l.length:=(by simpa using h);omega
  rw[jC _ _ _ hlen] at ih;rw[jC _ _ _ (by rw[cY,x.cells_len,aY6];have:i<l.length:=(by simpa using h);omega)]
  show List.take ((i+1)*4) (y.cells++fl l)++x.cells++List.drop ((i+1)*4+x.cells.length) (y.cells++fl l)=y.cells++fl (l.set i x)
  rw[<-ih,show (i+1)*4=y.cells.length+i*4 by rw[y.cells_len];omega,List.take_length_add_append,bA6,List.drop_length_add_append,aY7,aY7,aY7]
theorem LdN.el{h:aA}{L:Own}{bp:Nat}{l:List El}{zs:List Value}{i:Nat}{x:El}{T:TypeId}{fz:Nat × Nat}{k:Value->Prop}(n:Nat)(hb:L[n]?=some (bp,.cells (fl l++zs).toArray T fz))(hx:l[i]?=some x)(hk:k (.agg x.cells.toArray)):LdN h L ⟨bp,0+i*4,none⟩ 4 k:=
 ⟨x.cells,rfl,fun j hj=>by
   rw[aZ,aZq];refine Has.own n hb ?_;have hj4:j<4:=hj;have hi:=(aY5.1 hx).1;rw[aZx,aZe (by rw[cY];omega),aCb hx j hj4,aY3,aY4 hj];rfl,hk⟩
theorem aIl{l:List El}{zs:List Value}{i:Nat}(x:El)(h:i<l.length):kL x.cells (fl l++zs) (i*4)=fl (l.set i x)++zs:=by
 rw[<-aO2 x h,jC _ _ _ (by rw[aY2,cY,x.cells_len];omega),jC _ _ _ (by rw[cY,x.cells_len];omega)];rw[List.take_append_of_le_length (by rw[cY];omega),bBq (by rw[cY,x.cells_len];omega),aY7,aY7,aY7]
theorem Sto.el{L:Own}{bp:Nat}{l:List El}{zs:List Value}{i:Nat}{x:El}{T:TypeId}{k:Own->Prop}(n:Nat)(hb:L[n]?=some (bp,.cells (fl l++zs).toArray T (0,0)))(hi:i<l.length)(hk:k (L.set n (bp,.cells (fl (l.set i x)++zs).toArray T (0,0)))):Sto L ⟨bp,0+i*4,none⟩ x.cells k:=by
 refine⟨rfl,n,(fl l++zs).toArray,T,hb,?_,rfl,?_⟩
 .rw[bA4,aY2,cY,x.cells_len];show 0+i*4+4<=_;omega
 .rw[gR];show k (L.set n (bp,.cells (kL x.cells (fl l++zs) (0+i*4)).toArray T (0,0)));rw[aZq,aIl x hi];exact hk
end Go.Vc
/- Lists of terms: two exchanged, runs turned about, runs cut: plain mathematics. -/
namespace Go.Vc
open Go Go.Dig
def leE(x y:El):Prop:=¬dM.lt y.m x.m
abbrev dC (l:List El):Prop:=l.Pairwise leE
theorem aEh(x:El):leE x x:=dM.irr _
theorem vQ{a b c:El}(h:leE a b)(g:leE b c):leE a c:=sO (K:=Mon) (V:=Nat) (a:=(a.m,0)) (b:=(b.m,0)) (c:=(c.m,0)) h g
theorem aCc{a b:El}(h:dM.lt a.m b.m):leE a b:=fun x=>dM.irr _ (dM.tra h x)
def pe(x:El):Mon × El:=(x.m,x)
theorem aO3{l:List El}:aEg (l.map pe)↔dC l:=List.pairwise_map
theorem aYr{a1 a2 b1 b2:List El}(ha:dC (a1++a2))(hb:dC (b1++b2))(h1:∀x y,a1.getLast?=some x->b2.head?=some y->leE x y)(h2:∀x y,b1.getLast?=some x->a2.head?=some y->leE x y):
  ∀x∈a1++b1,∀y∈a2++b2,leE x y:=by
 have h:=aO0 (K:=Mon) (V:=El) (a1:=a1.map pe) (a2:=a2.map pe) (b1:=b1.map pe) (b2:=b2.map pe) (by rw[<-aZh];exact aO3.2 ha) (by rw[<-aZh];exact aO3.2 hb)
  (fun x y hx hy=>by
    rw[List.getLast?_map] at hx;rw[List.head?_map] at hy;obtain⟨x',hx',rfl⟩:=Option.map_eq_some_iff.1 hx;obtain⟨y',hy',rfl⟩:=Option.map_eq_some_iff.1 hy;exact h1 x' y' hx' hy')
  (fun x y hx hy=>by
    rw[List.getLast?_map] at hx;rw[List.head?_map] at hy;obtain⟨x',hx',rfl⟩:=Option.map_eq_some_iff.1 hx;obtain⟨y',hy',rfl⟩:=Option.map_eq_some_iff.1 hy;exact h2 x' y' hx' hy')
 intro x hx y hy;exact h (pe x) (by rw[<-aZh];exact aZu hx) (pe y) (by rw[<-aZh];exact aZu hy)
theorem aKp{a1 a2 b1 b2 m1 m2:List El}(h:∀x∈a1++b1,∀y∈a2++b2,leE x y)(o1:dC m1)(o2:dC m2)(p1:m1.Perm (a1++b1))(p2:m2.Perm (a2++b2)):
  dC (m1++m2)/\(m1++m2).Perm ((a1++a2)++(b1++b2)):=by
 refine⟨List.pairwise_append.2 ⟨o1,o2,fun x hx y hy=>h x (p1.mem_iff.1 hx) y (p2.mem_iff.1 hy)⟩,(p1.append p2).trans ?_⟩
 rw[aY7,aY7];refine List.Perm.append_left a1 ?_;rw[<-aY7,<-aY7];exact List.Perm.append_right b2 bBn
/-! exchanging -/
theorem mF(A:List El)(x:El)(R:List El):(A++x::R)[A.length]?=some x:=by
 rw[aZo (aZt _),bBv];rfl
theorem xN(A:List El)(x:El)(B:List El)(y:El)(C:List El):(A++x::(B++y::C))[A.length+1+B.length]?=some y:=by
 rw[aZo Aa,show A.length+1+B.length-A.length=B.length+1 by omega,bBo]
 exact mF B y C
theorem aCd(A:List El)(x:El)(B:List El)(y:El)(C:List El):((A++x::(B++y::C)).set A.length y).set (A.length+1+B.length) x=A++y::(B++x::C):=by
 rw[bAj _ _ (aZt _),bBv,List.set_cons_zero,bAj _ _ Aa,show A.length+1+B.length-A.length=B.length+1 by omega,bBc,bAj _ _ (aZt _),bBv,List.set_cons_zero]
theorem aO4(A:List El)(x:El)(B:List El)(y:El)(C:List El):((A++x::(B++y::C)).set (A.length+1+B.length) x).set A.length y=A++y::(B++x::C):=by
 rw[List.set_comm _ _ Aa,aCd]
theorem aO5(X Z Y Q1 P1 P2 Q2:List El)(p q:El)(h:P1.length=Q1.length){a b i:Nat}(ha:a=X.length)(hi:i=P1.length)(hb:b=X.length+(P1.length+1+P2.length)+Z.length):
  (X++(Q1++p::P2)++Z++(P1++q::Q2)++Y)[a+i]?=some p/\(X++(Q1++p::P2)++Z++(P1++q::Q2)++Y)[b+i]?=some q/\
  (((X++(Q1++p::P2)++Z++(P1++q::Q2)++Y).set (a+i) q).set (b+i) p=X++((Q1++[q])++P2)++Z++((P1++[p])++Q2)++Y):=by
 have e:X++(Q1++p::P2)++Z++(P1++q::Q2)++Y=(X++Q1)++p::((P2++Z++P1)++q::(Q2++Y)):=by simp[aY7]
 have e1:a+i=(X++Q1).length:=by rw[aY2];omega
 have e2:b+i=(X++Q1).length+1+(P2++Z++P1).length:=by simp only[aY2];omega
 rw[e,e1,e2];refine⟨mF _ _ _,xN _ _ _ _ _,?_⟩;rw[aCd];simp[aY7]
theorem aVq{L R:List El}(oL:dC L)(oR:dC R){s t:Nat}(hs:s<=L.length)(ht:t<=R.length)(h1:∀x y,0<s->L[s-1]?=some x->R[t]?=some y->leE x y)(h2:∀x y,0<t->R[t-1]?=some x->L[s]?=some y->leE x y):
  ∀x∈L.take s++R.take t,∀y∈L.drop s++R.drop t,leE x y:=by
 have last:∀(l:List El) (n:Nat) (x:El),n<=l.length->(l.take n).getLast?=some x->0<n/\l[n-1]?=some x:=fun l n x hn h=>by
  rw[List.getLast?_eq_getElem?,aZn,bA5,bAz hn] at h
  split at h
  .exact⟨Aa,h⟩
  .cases h
 have first:∀(l:List El) (n:Nat) (y:El),(l.drop n).head?=some y->l[n]?=some y:=fun l n y h=>by rw[List.head?_drop] at h;exact h
 refine aYr (by rw[aZk];exact oL) (by rw[aZk];exact oR) (fun x y hx hy=>?_) (fun x y hx hy=>?_)
 .obtain⟨h0,hx'⟩:=last L s x hs hx;exact h1 x y h0 hx' (first R t y hy)
 .obtain⟨h0,hx'⟩:=last R t x ht hx;exact h2 x y h0 hx' (first L s y hy)
theorem aIm{l:List El}(h:dC l){i j:Nat}{x y:El}(hij:i<=j)(hx:l[i]?=some x)(hy:l[j]?=some y):leE x y:=by
 by_cases e:i=j
 .subst e;rw[hx] at hy;cases hy;exact aEh x
 .obtain⟨h1,rfl⟩:=aY5.1 hx;obtain⟨h2,rfl⟩:=aY5.1 hy;exact (List.pairwise_iff_getElem.1 h) i j h1 h2 Aa
theorem aS3{R:List El}(o:dC R){e:El}{t:Nat}(h1:∀i x,i<t->R[i]?=some x->leE x e)(h2:∀i x,t<=i->R[i]?=some x->leE e x):dC (R.take t++e::R.drop t):=by
 refine List.pairwise_append.2 ⟨o.sublist (List.take_sublist ..),List.pairwise_cons.2 ⟨fun y hy=>?_,o.sublist (List.drop_sublist ..)⟩,fun x hx y hy=>?_⟩
 .obtain⟨i,hi,rfl⟩:=List.mem_iff_getElem.1 hy;exact h2 (t+i) _ Aa (by rw[<-bBt];exact aY4 hi)
 .obtain⟨i,hi,rfl⟩:=List.mem_iff_getElem.1 hx;have hi':=hi;rw[aZn] at hi';have hxe:R[i]?=some ((R.take t)[i]):=by rw[bDa];exact aY4 Aa
  have g1:=h1 i _ Aa hxe;rcases aZl.1 hy with rfl|hy
  .exact g1
  .obtain⟨j,hj,rfl⟩:=List.mem_iff_getElem.1 hy;exact vQ g1 (h2 (t+j) _ Aa (by rw[<-bBt];exact aY4 hj))
end Go.Vc