/- Texts as rows of bytes: their order; cells written at a place. -/
import Derived.Test.YtieblmbjldlaeaaGreatDoorE4
set_option linter.all false
namespace Go.Vc
open Go Go.Dig
theorem blt_eq:∀x y:List UInt8,Op.bytesLess x y=decide (x<y)
 | [],[]=>by simp [Op.bytesLess]
 | _::_,[]=>by simp [Op.bytesLess]
 | [],_::_=>by simp [Op.bytesLess]
 | a::x,b::y=>by
  simp only [Op.bytesLess,blt_eq x y,List.cons_lt_cons_iff]
  by_cases h2:a=b
  ·by_cases h1:a<b <;> simp [h1,h2]
  ·by_cases h1:a<b <;> simp [h1,h2]
theorem eW (x:List UInt8):(⟨x.toArray⟩:ByteArray).toList=x:=by rw [ByteArray.toList_eq]
theorem yS {x y:List UInt8} {p q:Prop} (hp:x<y→p) (hq:¬x<y→q):cnd (slt ⟨x.toArray⟩ ⟨y.toArray⟩) p q:=by
 unfold slt
 rw [eW,eW,blt_eq]
 by_cases h:x<y
 ·rw [decide_eq_true h];exact hp h
 ·rw [decide_eq_false h];exact hq h
theorem aDi {x y:List UInt8} {p q:Prop} (hp:x=y→p) (hq:x≠y→q):cnd (seq ⟨x.toArray⟩ ⟨y.toArray⟩) p q:=by
 refine xK (fun h=>hp ?_) (fun h=>hq fun e=>h (by rw [e]))
 have:=congrArg ByteArray.toList h
 rwa [eW,eW] at this
theorem gV:∀(vs l:List Value) (o:Nat),o+vs.length≤l.length→jE vs l o=l.take o++vs++l.drop (o+vs.length)
 | [],l,o,_=>by simp [jE]
 | v::vs,l,o,h=>by
  rw [aVs] at h
  rw [jE,gV vs (l.set o v) (o+1) (by rw [List.length_set];omega)]
  rw [List.take_set,List.drop_set_of_lt (by omega),aVs,show o+1+vs.length=o+(vs.length+1) by omega]
  have:(List.take (o+1) l).set o v=l.take o++[v]:=by
   rw [List.take_add_one,aVq (by omega)]
   rw [List.set_append_right _ _ (by rw [aV9];omega)]
   simp [aV9,Nat.min_eq_left (show o≤l.length by omega)]
  rw [this];simp
end Go.Vc
/- Sums over sorted lists of aBn: plain mathematics. -/
namespace Go.Dig
class cL (K:Type) where
 lt:K→K→Prop
 dec:∀a b,Decidable (lt a b)
 irr:∀a,¬lt a a
 tra:∀{a b c},lt a b→lt b c→lt a c
 tri:∀a b,lt a b∨a=b∨lt b a
instance {K:Type} [cL K] (a b:K):Decidable (cL.lt a b):=cL.dec a b
class dY (V:Type) [Add V] [OfNat V 0]:Prop where
 zero_add:∀a:V,0+a=a
 add_zero:∀a:V,a+0=a
 add_comm:∀a b:V,a+b=b+a
 add_assoc:∀a b c:V,a+b+c=a+(b+c)
instance:dY Nat:=⟨aWc,Nat.add_zero,Nat.add_comm,Nat.add_assoc⟩
instance:dY Rat:=⟨Rat.zero_add,Rat.add_zero,Rat.add_comm,Rat.add_assoc⟩
section
variable {K V:Type} [cL K] [DecidableEq K] [Add V] [OfNat V 0] [dY V] [DecidableEq V]
def cf (l:List (K × V)) (k:K):V:=l.foldr (fun t s=>if t.1=k then t.2+s else s) 0
omit [cL K] [dY V] [DecidableEq V] in
theorem mB (k:K):cf ([]:List (K × V)) k=0:=rfl
omit [cL K] [dY V] [DecidableEq V] in
theorem aQ (t:K × V) (l:List (K × V)) (k:K):cf (t::l) k=if t.1=k then t.2+cf l k else cf l k:=rfl
omit [cL K] [DecidableEq V] in
theorem gI (k:K):∀a b:List (K × V),cf (a++b) k=cf a k+cf b k
 | [],b=>(dY.zero_add _).symm
 | t::a,b=>by
  rw [List.cons_append,aQ,aQ,gI k a b]
  split
  ·rw [dY.add_assoc]
  ·rfl
def iR (k:K) (v:V):List (K × V)→List (K × V)
 | []=>[(k,v)]
 | (n,d)::q=>if cL.lt k n then (k,v)::(n,d)::q else if k=n then (n,v+d)::q else (n,d)::iR k v q
omit [DecidableEq V] in
theorem aKi (k:K) (v:V) (z:K):∀l:List (K × V),cf (iR k v l) z=(if k=z then v else 0)+cf l z
 | []=>by
  unfold iR
  rw [aQ,mB]
  split
  ·rfl
  ·rw [dY.add_zero]
 | (n,d)::q=>by
  unfold iR
  split
  ·rw [aQ]
   split
   ·rfl
   ·rw [dY.zero_add]
  ·split
   ·rename_i h
    subst h
    rw [aQ,aQ]
    split
    ·rw [dY.add_assoc]
    ·rw [dY.zero_add]
   ·rw [aQ,aQ,aKi k v z q]
    split
    ·rw [← dY.add_assoc,← dY.add_assoc,dY.add_comm d]
    ·rfl
abbrev gY (l:List (K × V)):Prop:=l.Pairwise fun s t=>cL.lt s.1 t.1
omit [OfNat V 0] [dY V] [DecidableEq V] in
theorem aEw {k:K} {v:V} {x:K}:∀{l:List (K × V)},(∀t∈l,cL.lt x t.1)→cL.lt x k→∀t∈iR k v l,cL.lt x t.1
 | [],_,hk,t,ht=>by
  unfold iR at ht
  rw [aV2] at ht
  subst ht;exact hk
 | (n,d)::q,h,hk,t,ht=>by
  unfold iR at ht
  split at ht
  ·rcases aV7.1 ht with rfl|ht
   ·exact hk
   ·exact h t ht
  ·split at ht
   ·rcases aV7.1 ht with rfl|ht
    ·exact h (n,d) (aVw ..)
    ·exact h t (aVz _ ht)
   ·rcases aV7.1 ht with rfl|ht
    ·exact h (n,d) (aVw ..)
    ·exact aEw (fun t ht=>h t (aVz _ ht)) hk t ht
omit [OfNat V 0] [dY V] [DecidableEq V] in
theorem aEx {k:K} {v:V}:∀{l:List (K × V)},gY l→gY (iR k v l)
 | [],_=>List.pairwise_cons.2 ⟨fun _ h=>(by simp at h),List.Pairwise.nil⟩
 | (n,d)::q,h=>by
  have h':=List.pairwise_cons.1 h
  unfold iR
  split
  ·rename_i hlt
   refine List.pairwise_cons.2 ⟨fun t ht=>?_,h⟩
   rcases aV7.1 ht with rfl|ht
   ·exact hlt
   ·exact cL.tra hlt (h'.1 t ht)
  ·rename_i hlt
   split
   ·exact List.pairwise_cons.2 ⟨h'.1,h'.2⟩
   ·rename_i hne
    have hnk:cL.lt n k:=by
     rcases cL.tri k n with x|x|x
     ·exact absurd x hlt
     ·exact absurd x hne
     ·exact x
    exact List.pairwise_cons.2 ⟨aEw h'.1 hnk,aEx h'.2⟩
def mH (l:List (K × V)):List (K × V):=l.foldr (fun t q=>iR t.1 t.2 q) []
def bU (l:List (K × V)):List (K × V):=(mH l).filter fun t=>!decide (t.2=0)
def aDj (l:List (K × V)):Prop:=gY l∧∀t∈l,t.2≠0
omit [OfNat V 0] [dY V] [DecidableEq V] in
theorem yT:∀l:List (K × V),gY (mH l)
 | []=>List.Pairwise.nil
 | _::l=>aEx (yT l)
omit [DecidableEq V] in
theorem aDk (z:K):∀l:List (K × V),cf (mH l) z=cf l z
 | []=>rfl
 | t::l=>by
  show cf (iR t.1 t.2 (mH l)) z=_
  rw [aKi,aDk z l,aQ]
  split
  ·rfl
  ·rw [dY.zero_add]
omit [cL K] in
theorem jD (z:K):∀l:List (K × V),cf (l.filter fun t=>!decide (t.2=0)) z=cf l z
 | []=>rfl
 | t::l=>by
  by_cases h:t.2=0
  ·rw [List.filter_cons_of_neg (by simp [h]),jD z l,aQ]
   split
   ·rw [h,dY.zero_add]
   ·rfl
  ·rw [List.filter_cons_of_pos (by simp [h]),aQ,aQ,jD z l]
theorem pY (l:List (K × V)):aDj (bU l):=
 ⟨(yT l).filter _,fun t ht=>by have:=(List.mem_filter.1 ht).2;simpa using this⟩
theorem yU (l:List (K × V)) (z:K):cf (bU l) z=cf l z:=by unfold bU;rw [jD,aDk]
omit [dY V] [DecidableEq V] in
theorem lG {l:List (K × V)} {k:K} (h:∀t∈l,cL.lt k t.1):cf l k=0:=by
 induction l with
 | nil=>rfl
 | cons t l ih=>
  rw [aQ,if_neg (fun e=>by subst e;exact cL.irr _ (h t (aVw ..)))]
  exact ih fun u hu=>h u (aVz _ hu)
omit [DecidableEq V] in
theorem oS:∀{l:List (K × V)} {t:K × V},gY l→t∈l→cf l t.1=t.2
 | u::l,t,h,ht=>by
  have h':=List.pairwise_cons.1 h
  rcases aV7.1 ht with rfl|ht
  ·rw [aQ,if_pos rfl,lG h'.1,dY.add_zero]
  ·rw [aQ,if_neg (fun e=>by have:=h'.1 t ht;rw [e] at this;exact cL.irr _ this)]
   exact oS h'.2 ht
omit [dY V] [DecidableEq V] [cL K] in
theorem uC {l:List (K × V)} {k:K} (h:∀t∈l,t.1≠k):cf l k=0:=by
 induction l with
 | nil=>rfl
 | cons t l ih=>
  rw [aQ,if_neg (h t (aVw ..))]
  exact ih fun u hu=>h u (aVz _ hu)
omit [DecidableEq V] in
theorem pZ:∀{a b:List (K × V)},aDj a→aDj b→(∀k,cf a k=cf b k)→a=b
 | [],[],_,_,_=>rfl
 | [],t::b,_,hb,h=>by
  have:=h t.1
  rw [mB,oS hb.1 (aVw ..)] at this
  exact absurd this.symm (hb.2 t (aVw ..))
 | t::a,[],ha,_,h=>by
  have:=h t.1
  rw [mB,oS ha.1 (aVw ..)] at this
  exact absurd this (ha.2 t (aVw ..))
 | (m,c)::a,(n,d)::b,ha,hb,h=>by
  have ha':=List.pairwise_cons.1 ha.1
  have hb':=List.pairwise_cons.1 hb.1
  have hmn:m=n:=by
   rcases cL.tri m n with x|x|x
   ·have:=h m
    rw [oS ha.1 (aVw ..),lG (fun t ht=>by
      rcases aV7.1 ht with rfl|ht
      ·exact x
      ·exact cL.tra x (hb'.1 t ht))] at this
    exact absurd this (ha.2 _ (aVw ..))
   ·exact x
   ·have:=h n
    rw [oS hb.1 (t:=(n,d)) (aVw ..),lG (fun t ht=>by
      rcases aV7.1 ht with rfl|ht
      ·exact x
      ·exact cL.tra x (ha'.1 t ht))] at this
    exact absurd this.symm (hb.2 _ (aVw ..))
  subst hmn
  have hcd:c=d:=by
   have:=h m
   rwa [oS ha.1 (t:=(m,c)) (aVw ..),oS hb.1 (t:=(m,d)) (aVw ..)] at this
  subst hcd
  refine congrArg _ (pZ ⟨ha'.2,fun t ht=>ha.2 t (aVz _ ht)⟩ ⟨hb'.2,fun t ht=>hb.2 t (aVz _ ht)⟩ fun k=>?_)
  by_cases e:m=k
  ·subst e
   rw [lG ha'.1,lG hb'.1]
  ·have:=h k
   rwa [aQ,aQ,if_neg e,if_neg e] at this
theorem aKj {a:List (K × V)} (h:aDj a):bU a=a:=pZ (pY a) h fun k=>yU a k
end
def sm {K:Type} (f:K→Rat) (l:List (K × Rat)):Rat:=l.foldr (fun t s=>t.2*f t.1+s) 0
section
variable {K:Type} (f g:K→Rat)
variable [cL K] [DecidableEq K]
omit [cL K] in
end
end Go.Dig
/- Products of atoms with exponents, names against their inverses: plain mathematics. -/
namespace Go.Dig
theorem kB (a b:List UInt8):a<b∨a=b∨b<a:=by
 by_cases h:a<b
 ·exact .inl h
 ·by_cases h':b<a
  ·exact .inr (.inr h')
  ·exact .inr (.inl (List.le_antisymm (List.not_lt.1 h') (List.not_lt.1 h)))
instance:cL (List UInt8):=⟨fun a b=>a<b,fun _ _=>inferInstance,fun a=>List.lt_irrefl a,fun h k=>List.lt_trans h k,kB⟩
abbrev Fac:Type:=List UInt8 × Nat
abbrev Mon:Type:=List Fac
def ltF:Mon→Mon→Prop
 | [],[]=>False
 | [],_::_=>True
 | _::_,[]=>False
 | (x,i)::a,(y,j)::b=>x<y∨x=y∧(i<j∨i=j∧ltF a b)
def aKk:(a b:Mon)→Decidable (ltF a b)
 | [],[]=>by unfold ltF;exact inferInstance
 | [],_::_=>by unfold ltF;exact inferInstance
 | _::_,[]=>by unfold ltF;exact inferInstance
 | (x,i)::a,(y,j)::b=>by
  unfold ltF
  have:=aKk a b
  exact inferInstance
theorem aEy:∀a:Mon,¬ltF a a
 | []=>id
 | (x,i)::a=>by
  unfold ltF
  rintro (h|⟨-,h|⟨-,h⟩⟩)
  ·exact List.lt_irrefl _ h
  ·exact Nat.lt_irrefl _ h
  ·exact aEy a h
theorem aEz:∀{a b c:Mon},ltF a b→ltF b c→ltF a c
 | [],[],_,h,_=>h.elim
 | [],_::_,[],_,h=>h.elim
 | [],_::_,_::_,_,_=>trivial
 | _::_,[],_,h,_=>h.elim
 | _::_,_::_,[],_,h=>h.elim
 | (x,i)::a,(y,j)::b,(z,k)::c,h,g=>by
  unfold ltF at h g ⊢
  rcases h with h|⟨rfl,h⟩
  ·rcases g with g|⟨rfl,-⟩
   ·exact .inl (List.lt_trans h g)
   ·exact .inl h
  ·rcases g with g|⟨rfl,g⟩
   ·exact .inl g
   ·refine .inr ⟨rfl,?_⟩
    rcases h with h|⟨rfl,h⟩
    ·rcases g with g|⟨rfl,-⟩
     ·exact .inl (Nat.lt_trans h g)
     ·exact .inl h
    ·rcases g with g|⟨rfl,g⟩
     ·exact .inl g
     ·exact .inr ⟨rfl,aEz h g⟩
theorem aE0:∀a b:Mon,ltF a b∨a=b∨ltF b a
 | [],[]=>.inr (.inl rfl)
 | [],_::_=>.inl trivial
 | _::_,[]=>.inr (.inr trivial)
 | (x,i)::a,(y,j)::b=>by
  unfold ltF
  rcases kB x y with h|rfl|h
  ·exact .inl (.inl h)
  ·rcases Nat.lt_trichotomy i j with h|rfl|h
   ·exact .inl (.inr ⟨rfl,.inl h⟩)
   ·rcases aE0 a b with h|rfl|h
    ·exact .inl (.inr ⟨rfl,.inr ⟨rfl,h⟩⟩)
    ·exact .inr (.inl rfl)
    ·exact .inr (.inr (.inr ⟨rfl,.inr ⟨rfl,h⟩⟩))
   ·exact .inr (.inr (.inr ⟨rfl,.inl h⟩))
  ·exact .inr (.inr (.inl h))
instance:cL Mon:=⟨ltF,aKk,aEy,fun h k=>aEz h k,aE0⟩
def nmA (s:List UInt8):Prop:=gH (s.map UInt8.toNat)
instance (s:List UInt8):Decidable (nmA s):=by unfold nmA;exact inferInstance
def dV:List UInt8:=[49,32,47,32]
def inv (s:List UInt8):Option (List UInt8):=if nmA s then some (dV++s) else if 4<s.length∧s.take 4=dV∧nmA (s.drop 4) then some (s.drop 4) else none
theorem aN5 (s:List UInt8):¬nmA (dV++s):=fun h=>by
 have h2:=h.2.1
 have:dD ((dV++s).map UInt8.toNat)=0:=rfl
 rw [this] at h2
 simp [dV] at h2
theorem aN6 {s:List UInt8} (h:nmA s):0<s.length:=by
 have:=h.2.2.1
 cases s with
 | nil=>exact absurd rfl this
 | cons _ _=>exact Nat.succ_pos _
theorem aE1 {s u:List UInt8} (h:inv s=some u):inv u=some s:=by
 unfold inv at h
 split at h
 ·rename_i hn
  cases h
  have hp:=aN6 hn
  unfold inv
  rw [if_neg (aN5 s),if_pos ⟨by simp [dV];omega,rfl,hn⟩];rfl
 ·split at h
  ·rename_i hn
   cases h
   unfold inv
   rw [if_pos hn.2.2,← hn.2.1,aV6]
  ·cases h
def rv (l:Mon) (s:List UInt8):Nat:=match inv s with
 | some u=>cf l u
 | none=>0
def jn (a b:Mon):Mon:=bU ((mH (a++b)).map fun t=>(t.1,t.2-min t.2 (rv (a++b) t.1)))
theorem aKl {q:Mon} (g:List UInt8→Nat→Nat) (hg:∀s,g s 0=0) (h:gY q) (s:List UInt8):cf (q.map fun t=>(t.1,g t.1 t.2)) s=g s (cf q s):=by
 induction q with
 | nil=>exact (hg s).symm
 | cons t q ih=>
  have h':=List.pairwise_cons.1 h
  rw [List.map_cons,aQ,aQ,ih h'.2]
  split
  ·rename_i e
   subst e
   rw [lG h'.1,hg];rfl
  ·rfl
theorem aE2 (a b:Mon) (s:List UInt8):cf (jn a b) s=cf a s+cf b s-min (cf a s+cf b s) (rv (a++b) s):=by
 unfold jn
 rw [yU,aKl (fun s n=>n-min n (rv (a++b) s)) (fun s=>Nat.zero_sub _) (yT _),aDk,gI]
theorem aDl (a b:Mon) (s:List UInt8):rv (a++b) s=rv a s+rv b s:=by
 unfold rv
 cases inv s with
 | none=>rfl
 | some u=>exact gI u a b
theorem aDm (a b:Mon):aDj (jn a b):=pY _
theorem aSf (a b:Mon) (s:List UInt8):rv (jn a b) s=rv a s+rv b s-min (rv a s+rv b s) (cf a s+cf b s)∨inv s=none:=by
 cases h:inv s with
 | none=>exact .inr rfl
 | some u=>
  left
  have e:∀m:Mon,rv m s=cf m u:=fun m=>by unfold rv;rw [h]
  have e':∀m:Mon,rv m u=cf m s:=fun m=>by unfold rv;rw [aE1 h]
  rw [e,e,e,aE2,aDl,e',e']
theorem aN7 {s:List UInt8} (h:inv s=none) (m:Mon):rv m s=0:=by unfold rv;rw [h]
def uD (m:Mon):Prop:=aDj m∧∀s,cf m s=0∨rv m s=0
theorem aQk (a b:Mon):uD (jn a b):=⟨aDm a b,fun s=>by
  rw [aE2,aDl]
  rcases aSf a b s with h|h
  ·rw [h];omega
  ·exact .inr (aN7 h _)⟩
theorem yV:uD []:=⟨⟨List.Pairwise.nil,fun _ h=>(by simp at h)⟩,fun _=>.inl rfl⟩
theorem aN8 (s:List UInt8):uD [(s,1)]:=by
 refine ⟨⟨List.pairwise_cons.2 ⟨fun _ h=>(by simp at h),List.Pairwise.nil⟩,fun t h=>by rw [aV2] at h;subst h;exact Nat.one_ne_zero⟩,fun z=>?_⟩
 by_cases e:s=z
 ·subst e
  right
  unfold rv
  cases h:inv s with
  | none=>rfl
  | some u=>
   show cf [(s,1)] u=0
   have hne:s≠u:=fun e=>?_
   ·rw [aQ,if_neg hne];rfl
   subst e
   unfold inv at h
   split at h
   ·have:=congrArg List.length (Option.some.inj h)
    simp [dV] at this;omega
   ·split at h
    ·rename_i hn
     have:=congrArg List.length (Option.some.inj h)
     rw [List.length_drop] at this
     omega
    ·cases h
 ·left
  rw [aQ,if_neg e];rfl
end Go.Dig
/- Products as the document forms them: two rows laid together, then names against their inverses; orders of monomials as numbers: plain mathematics. -/
namespace Go.Dig
theorem aN9 {s u:List UInt8}:inv s=some u↔(nmA s∧u=dV++s)∨(nmA u∧s=dV++u):=by
 constructor
 ·intro h
  unfold inv at h
  split at h
  ·rename_i hn
   cases h
   exact .inl ⟨hn,rfl⟩
  ·split at h
   ·rename_i hn
    cases h
    exact .inr ⟨hn.2.2,by rw [← hn.2.1,aV6]⟩
   ·cases h
 ·rintro (⟨hn,rfl⟩|⟨hn,rfl⟩)
  ·unfold inv;rw [if_pos hn]
  ·exact aE1 (by unfold inv;rw [if_pos hn])
def mgM:Mon→Mon→Mon
 | [],b=>b
 | t::a,[]=>t::a
 | (x,i)::a,(y,j)::b=>if x<y then (x,i)::mgM a ((y,j)::b) else if y<x then (y,j)::mgM ((x,i)::a) b else (x,i+j)::mgM a b
termination_by a b=>a.length+b.length
theorem rF (b:Mon):mgM [] b=b:=by unfold mgM;rfl
theorem qA (a:Mon):mgM a []=a:=by cases a <;> (unfold mgM;rfl)
theorem sM (x y:List UInt8) (i j:Nat) (a b:Mon):mgM ((x,i)::a) ((y,j)::b)=if x<y then (x,i)::mgM a ((y,j)::b) else if y<x then (y,j)::mgM ((x,i)::a) b else (x,i+j)::mgM a b:=by
 conv=>lhs;unfold mgM
theorem qB:∀(n:Nat) (a b:Mon),a.length+b.length≤n→gY a→gY b→gY (mgM a b)∧(∀s,cf (mgM a b) s=cf a s+cf b s)∧∀z,(∀t∈a,z<t.1)→(∀t∈b,z<t.1)→∀t∈mgM a b,z<t.1
 | n,[],b,_,_,hb=>by rw [rF];exact ⟨hb,fun s=>(aWc _).symm,fun z _ h=>h⟩
 | n,t::a,[],_,ha,_=>by rw [qA];exact ⟨ha,fun s=>rfl,fun z h _=>h⟩
 | 0,_::_,_::_,h,_,_=>by simp at h
 | n+1,(x,i)::a,(y,j)::b,hn,ha,hb=>by
  have ha':=List.pairwise_cons.1 ha
  have hb':=List.pairwise_cons.1 hb
  simp only [aVs] at hn
  rw [sM]
  split
  ·rename_i hxy
   obtain ⟨h1,h2,h3⟩:=qB n a ((y,j)::b) (by simp only [aVs];omega) ha'.2 hb
   refine ⟨List.pairwise_cons.2 ⟨fun t ht=>h3 x ha'.1 (fun u hu=>?_) t ht,h1⟩,fun s=>?_,fun z g1 g2 t ht=>?_⟩
   ·rcases aV7.1 hu with rfl|hu
    ·exact hxy
    ·exact List.lt_trans hxy (hb'.1 u hu)
   ·rw [aQ,h2,aQ (x,i)]
    split
    ·exact (Nat.add_assoc ..).symm
    ·rfl
   ·rcases aV7.1 ht with rfl|ht
    ·exact g1 _ (aVw ..)
    ·exact h3 z (fun u hu=>g1 u (aVz _ hu)) g2 t ht
  ·rename_i hxy
   split
   ·rename_i hyx
    obtain ⟨h1,h2,h3⟩:=qB n ((x,i)::a) b (by simp only [aVs];omega) ha hb'.2
    refine ⟨List.pairwise_cons.2 ⟨fun t ht=>h3 y (fun u hu=>?_) hb'.1 t ht,h1⟩,fun s=>?_,fun z g1 g2 t ht=>?_⟩
    ·rcases aV7.1 hu with rfl|hu
     ·exact hyx
     ·exact List.lt_trans hyx (ha'.1 u hu)
    ·rw [aQ (y,j),h2,aQ (y,j) b]
     split <;> omega
    ·rcases aV7.1 ht with rfl|ht
     ·exact g2 _ (aVw ..)
     ·exact h3 z g1 (fun u hu=>g2 u (aVz _ hu)) t ht
   ·rename_i hyx
    obtain rfl:x=y:=by
     rcases kB x y with h|h|h
     ·exact absurd h hxy
     ·exact h
     ·exact absurd h hyx
    obtain ⟨h1,h2,h3⟩:=qB n a b (by omega) ha'.2 hb'.2
    refine ⟨List.pairwise_cons.2 ⟨fun t ht=>h3 x ha'.1 hb'.1 t ht,h1⟩,fun s=>?_,fun z g1 g2 t ht=>?_⟩
    ·rw [aQ,aQ (x,i),aQ (x,j),h2]
     show (if x=s then _ else _)=(if x=s then _ else _)+(if x=s then _ else _)
     split <;> omega
    ·rcases aV7.1 ht with rfl|ht
     ·exact g1 (x,i) (aVw ..)
     ·exact h3 z (fun u hu=>g1 u (aVz _ hu)) (fun u hu=>g2 u (aVz _ hu)) t ht
theorem yW:∀(n:Nat) (a b:Mon),a.length+b.length≤n→(mgM a b).length≤a.length+b.length
 | n,[],b,_=>by rw [rF];simp
 | n,t::a,[],_=>by rw [qA];simp
 | 0,_::_,_::_,h=>by simp at h
 | n+1,(x,i)::a,(y,j)::b,hn=>by
  simp only [aVs] at hn
  rw [sM]
  have h1:=yW n a ((y,j)::b) (by simp only [aVs];omega)
  have h2:=yW n ((x,i)::a) b (by simp only [aVs];omega)
  have h3:=yW n a b (by omega)
  simp only [aVs] at h1 h2
  split
  ·simp only [aVs];omega
  ·split <;> simp only [aVs] <;> omega
def cnM (l:Mon):Mon:=(l.map fun t=>(t.1,t.2-min t.2 (rv l t.1))).filter fun t=>!decide (t.2=0)
theorem aOa {q:Mon} (g:Fac→Nat) (h:gY q):gY (q.map fun t=>(t.1,g t)):=List.pairwise_map.2 h
theorem aSg {a b:Mon} (ha:gY a) (hb:gY b):jn a b=cnM (mgM a b):=by
 obtain ⟨h1,h2,-⟩:=qB _ a b (aWf _) ha hb
 have hr:∀s,rv (mgM a b) s=rv (a++b) s:=fun s=>by
  unfold rv
  cases inv s with
  | none=>rfl
  | some u=>exact (h2 u).trans (gI u a b).symm
 refine pZ (aDm a b) ⟨(aOa _ h1).filter _,fun t ht=>by have:=(List.mem_filter.1 ht).2;simpa using this⟩ fun s=>?_
 unfold cnM
 rw [aE2,jD,aKl (fun s n=>n-min n (rv (mgM a b) s)) (fun s=>Nat.zero_sub _) h1,h2,hr]
theorem aOb {l:Mon} (h:gY l) {s:List UInt8} {k:Nat} {t:Fac} (ht:l[k]?=some t):rv (l.take (k+1)) s=rv (l.take k) s+(if inv s=some t.1 then t.2 else 0):=by
 have e:l.take (k+1)=l.take k++[t]:=by rw [List.take_add_one,ht];rfl
 rw [e,aDl]
 congr 1
 unfold rv
 cases inv s with
 | none=>rfl
 | some u=>
  show cf [t] u=_
  rw [aQ,mB]
  by_cases x:t.1=u
  ·rw [if_pos x,if_pos (by rw [x]),Nat.add_zero]
  ·rw [if_neg x,if_neg (fun y=>x (Option.some.inj y).symm)]
theorem aOc {l:Mon} (h:gY l) {s:List UInt8} {k:Nat} {t:Fac} (ht:l[k]?=some t) (hi:inv s=some t.1):rv (l.take k) s=0:=by
 unfold rv
 rw [hi]
 refine uC fun u hu e=>?_
 obtain ⟨i,hi,rfl⟩:=List.mem_iff_getElem.1 hu
 obtain ⟨hk,hkt⟩:=aVr.1 ht
 rw [aV9] at hi
 rw [List.getElem_take] at e
 have:=(List.pairwise_iff_getElem.1 h) i k (by omega) hk (by omega)
 rw [hkt,e] at this
 exact cL.irr _ this
def fO (a b:Mon):Int:=if cL.lt a b then -1 else if a=b then 0 else 1
theorem aBi:fO [] []=0:=rfl
theorem aKm (t:Fac) (b:Mon):fO [] (t::b)=-1:=if_pos trivial
theorem aKn (t:Fac) (a:Mon):fO (t::a) []=1:=by
 unfold fO
 rw [if_neg (show ¬cL.lt (K:=Mon) (t::a) [] from fun h=>h),if_neg (by simp)]
theorem wN (x y:List UInt8) (i j:Nat) (a b:Mon):fO ((x,i)::a) ((y,j)::b)=if x<y then -1 else if y<x then 1 else if i<j then -1 else if j<i then 1 else fO a b:=by
 have hd:cL.lt (K:=Mon) ((x,i)::a) ((y,j)::b)↔(x<y∨x=y∧(i<j∨i=j∧ltF a b)):=Iff.rfl
 unfold fO
 by_cases h1:x<y
 ·rw [if_pos (hd.2 (.inl h1)),if_pos h1]
 ·rw [if_neg h1]
  by_cases h2:y<x
  ·have hne:x≠y:=fun e=>by subst e;exact List.lt_irrefl _ h2
   rw [if_pos h2,if_neg (fun h=>(hd.1 h).elim h1 fun g=>hne g.1),if_neg (fun e=>hne (by injection e with e;injection e))]
  ·rw [if_neg h2]
   obtain rfl:x=y:=by
    rcases kB x y with h|h|h
    ·exact absurd h h1
    ·exact h
    ·exact absurd h h2
   by_cases h3:i<j
   ·rw [if_pos (hd.2 (.inr ⟨rfl,.inl h3⟩)),if_pos h3]
   ·rw [if_neg h3]
    by_cases h4:j<i
    ·rw [if_pos h4,if_neg (fun h=>(hd.1 h).elim h1 fun g=>g.2.elim h3 fun g=>by omega),if_neg (fun e=>by injection e with e;injection e with _ e;omega)]
    ·rw [if_neg h4]
     obtain rfl:i=j:=by omega
     have e1:cL.lt (K:=Mon) ((x,i)::a) ((x,i)::b)↔cL.lt a b:=⟨fun h=>(hd.1 h).elim (fun g=>absurd g h1) fun g=>g.2.elim (fun g=>absurd g h3) fun g=>g.2,fun h=>hd.2 (.inr ⟨rfl,.inr ⟨rfl,h⟩⟩)⟩
     by_cases h5:cL.lt a b
     ·rw [if_pos (e1.2 h5),if_pos h5]
     ·rw [if_neg (fun h=>h5 (e1.1 h)),if_neg h5]
      by_cases h6:a=b
      ·rw [if_pos (by rw [h6]),if_pos h6]
      ·rw [if_neg (fun e=>h6 (by injection e)),if_neg h6]
theorem fV {a b:Mon}:fO a b<0↔cL.lt a b:=by
 unfold fO
 split
 ·rename_i h;exact ⟨fun _=>h,fun _=>by decide⟩
 ·rename_i h
  split <;> exact ⟨fun x=>absurd x (by decide),fun x=>absurd x h⟩
theorem iB {a b:Mon}:fO a b=0↔a=b:=by
 unfold fO
 split
 ·rename_i h;exact ⟨fun x=>absurd x (by decide),fun e=>by subst e;exact absurd h (cL.irr _)⟩
 ·split
  ·rename_i h;exact ⟨fun _=>h,fun _=>rfl⟩
  ·rename_i h;exact ⟨fun x=>absurd x (by decide),fun x=>absurd x h⟩
end Go.Dig
/- Lists in order, put together; like terms added up: plain mathematics. -/
namespace Go.Dig
section
variable {K V:Type} [cL K] [DecidableEq K] [Add V] [OfNat V 0] [dY V] [DecidableEq V]
def leK (s t:K × V):Prop:=¬cL.lt t.1 s.1
abbrev aBj (l:List (K × V)):Prop:=l.Pairwise leK
omit [DecidableEq K] [Add V] [OfNat V 0] [dY V] [DecidableEq V] in
theorem qC {a b c:K × V} (h:leK a b) (g:leK b c):leK a c:=fun x=>by
 rcases cL.tri a.1 b.1 with y|y|y
 ·exact g (cL.tra x y)
 ·exact g (by rw [← y];exact x)
 ·exact h y
omit [DecidableEq K] [Add V] [OfNat V 0] [dY V] [DecidableEq V] in
omit [DecidableEq K] [Add V] [OfNat V 0] [dY V] [DecidableEq V] in
omit [DecidableEq K] [Add V] [OfNat V 0] [dY V] [DecidableEq V] in
theorem aKo {a1 a2 b1 b2:List (K × V)} (ha:aBj (a1++a2)) (hb:aBj (b1++b2))
  (h1:∀x y,a1.getLast?=some x→b2.head?=some y→leK x y) (h2:∀x y,b1.getLast?=some x→a2.head?=some y→leK x y):
  ∀x∈a1++b1,∀y∈a2++b2,leK x y:=by
 have ha':=List.pairwise_append.1 ha
 have hb':=List.pairwise_append.1 hb
 have top:∀{l:List (K × V)} {x:K × V},aBj l→x∈l→∃z,l.getLast?=some z∧(leK x z):=by
  intro l x hl hx
  obtain ⟨z,hz⟩:∃z,l.getLast?=some z:=by
   cases h:l.getLast? with
   | none=>rw [List.getLast?_eq_none_iff] at h;subst h;simp at hx
   | some z=>exact ⟨z,rfl⟩
  refine ⟨z,hz,?_⟩
  obtain ⟨r,rfl⟩:=List.getLast?_eq_some_iff.1 hz
  rcases aVx.1 hx with hx|hx
  ·exact (List.pairwise_append.1 hl).2.2 x hx z (aV2.2 rfl)
  ·rw [aV2] at hx;subst hx;exact cL.irr _
 have bot:∀{l:List (K × V)} {x:K × V},aBj l→x∈l→∃z,l.head?=some z∧(leK z x):=by
  intro l x hl hx
  cases l with
  | nil=>simp at hx
  | cons z l=>
   refine ⟨z,rfl,?_⟩
   rcases aV7.1 hx with rfl|hx
   ·exact cL.irr _
   ·exact (List.pairwise_cons.1 hl).1 x hx
 intro x hx y hy
 rcases aVx.1 hx with hx|hx
 ·rcases aVx.1 hy with hy|hy
  ·exact ha'.2.2 x hx y hy
  ·obtain ⟨z,hz,e1⟩:=top ha'.1 hx
   obtain ⟨u,hu,e2⟩:=bot hb'.2.1 hy
   exact qC (qC e1 (h1 z u hz hu)) e2
 ·rcases aVx.1 hy with hy|hy
  ·obtain ⟨z,hz,e1⟩:=top hb'.1 hx
   obtain ⟨u,hu,e2⟩:=bot ha'.2.1 hy
   exact qC (qC e1 (h2 z u hz hu)) e2
  ·exact hb'.2.2 x hx y hy
omit [cL K] [DecidableEq V] in
theorem aE3 {a b:List (K × V)} (h:a.Perm b) (k:K):cf a k=cf b k:=by
 induction h with
 | nil=>rfl
 | cons x _ ih=>rw [aQ,aQ,ih]
 | swap x y l=>
  rw [aQ,aQ,aQ,aQ]
  split <;> split
  ·rw [← dY.add_assoc,← dY.add_assoc,dY.add_comm y.2]
  all_goals rfl
 | trans _ _ h1 h2=>exact h1.trans h2
def grS (out:List (K × V)) (t:K × V):List (K × V):=match out.getLast? with
 | some u=>if u.1=t.1 then out.dropLast++[(u.1,u.2+t.2)] else out++[t]
 | none=>out++[t]
omit [cL K] [DecidableEq V] in
theorem aSh (out:List (K × V)) (t:K × V) (z:K):cf (grS out t) z=cf out z+cf [t] z:=by
 unfold grS
 cases h:out.getLast? with
 | none=>exact gI z _ _
 | some u=>
  obtain ⟨r,rfl⟩:=List.getLast?_eq_some_iff.1 h
  show cf (if u.1=t.1 then _ else _) z=_
  split
  ·rename_i e
   rw [List.dropLast_concat,gI,gI,dY.add_assoc]
   congr 1
   rw [aQ,aQ,aQ,← e,mB]
   show (if u.1=z then _ else _)=_
   split
   ·rw [dY.add_zero,dY.add_zero,dY.add_zero]
   ·rw [dY.add_zero]
  ·exact gI z _ _
omit [OfNat V 0] [dY V] [DecidableEq V] in
theorem aQl {out:List (K × V)} {t:K × V} (h:gY out) (ht:∀u∈out,leK u t):gY (grS out t)∧∀v,(∀u∈out,leK u v)→leK t v→∀u∈grS out t,leK u v:=by
 unfold grS
 cases hl:out.getLast? with
 | none=>
  rw [List.getLast?_eq_none_iff] at hl
  subst hl
  exact ⟨List.pairwise_cons.2 ⟨fun _ x=>(by simp at x),List.Pairwise.nil⟩,fun v _ h2 u hu=>by rw [List.nil_append,aV2] at hu;subst hu;exact h2⟩
 | some x=>
  obtain ⟨r,rfl⟩:=List.getLast?_eq_some_iff.1 hl
  have h':=List.pairwise_append.1 h
  show gY (if x.1=t.1 then _ else _)∧_
  split
  ·rename_i e
   rw [List.dropLast_concat]
   refine ⟨List.pairwise_append.2 ⟨h'.1,List.pairwise_cons.2 ⟨fun _ x=>(by simp at x),List.Pairwise.nil⟩,fun a ha b hb=>?_⟩,fun v h1 _ u hu=>?_⟩
   ·rw [aV2] at hb;subst hb
    exact h'.2.2 a ha x (aV2.2 rfl)
   ·have hu:u∈(if x.1=t.1 then r++[(x.1,x.2+t.2)] else r++[x]++[t]):=hu
    rw [if_pos e] at hu
    rcases aVx.1 hu with hu|hu
    ·exact h1 u (List.mem_append_left _ hu)
    ·rw [aV2] at hu;subst hu
     exact h1 x (List.mem_append_right _ (aV2.2 rfl))
  ·rename_i e
   refine ⟨List.pairwise_append.2 ⟨h,List.pairwise_cons.2 ⟨fun _ x=>(by simp at x),List.Pairwise.nil⟩,fun a ha b hb=>?_⟩,fun v h1 h2 u hu=>?_⟩
   ·rw [aV2] at hb;subst hb
    have hxt:cL.lt x.1 b.1:=by
     rcases cL.tri x.1 b.1 with y|y|y
     ·exact y
     ·exact absurd y e
     ·exact absurd y (ht x (List.mem_append_right _ (aV2.2 rfl)))
    rcases aVx.1 ha with ha|ha
    ·exact cL.tra (h'.2.2 a ha x (aV2.2 rfl)) hxt
    ·rw [aV2] at ha;subst ha;exact hxt
   ·have hu:u∈(if x.1=t.1 then (r++[x]).dropLast++[(x.1,x.2+t.2)] else r++[x]++[t]):=hu
    rw [if_neg e] at hu
    rcases aVx.1 hu with hu|hu
    ·exact h1 u hu
    ·rw [aV2] at hu;subst hu;exact h2
theorem aE4:∀(l out:List (K × V)),gY out→aBj l→(∀u∈out,∀t∈l,leK u t)→gY (l.foldl grS out)∧∀z,cf (l.foldl grS out) z=cf out z+cf l z
 | [],out,h,_,_=>⟨h,fun z=>(dY.add_zero _).symm⟩
 | t::l,out,h,hl,ho=>by
  have hl':=List.pairwise_cons.1 hl
  obtain ⟨g1,g2⟩:=aQl h fun u hu=>ho u hu t (aVw ..)
  obtain ⟨r1,r2⟩:=aE4 l (grS out t) g1 hl'.2 fun u hu v hv=>g2 v (fun w hw=>ho w hw v (aVz _ hv)) (hl'.1 v hv) u hu
  refine ⟨r1,fun z=>?_⟩
  rw [List.foldl_cons,r2,aSh,dY.add_assoc]
  congr 1
  rw [← gI];rfl
theorem aE5 {l l':List (K × V)} (hp:l'.Perm l) (ho:aBj l'):(l'.foldl grS []).filter (fun t=>!decide (t.2=0))=bU l:=by
 obtain ⟨h1,h2⟩:=aE4 l' [] List.Pairwise.nil ho (fun u hu=>by simp at hu)
 refine pZ ⟨h1.filter _,fun t ht=>?_⟩ (pY l) fun k=>?_
 ·have:=(List.mem_filter.1 ht).2
  simpa using this
 ·rw [jD,h2,yU,mB,dY.zero_add,aE3 hp]
end
end Go.Dig
/- Rows of terms in own memory: an element read, an element written. -/
namespace Go.Vc
open Go Go.Dig
structure El where
 neg:Bool
 n:Sl
 d:Sl
 f:Sl
 m:Mon
 q:Rat
def El.cells (x:El):List Value:=[.bool x.neg,.slice x.n.a x.n.l x.n.c,.slice x.d.a x.d.l x.d.c,.slice x.f.a x.f.l x.f.c]
def fl (l:List El):List Value:=l.flatMap El.cells
theorem El.cells_len (x:El):x.cells.length=4:=rfl
theorem aV:∀l:List El,(fl l).length=l.length*4
 | []=>rfl
 | x::l=>by
  show (x.cells++fl l).length=_
  rw [aVo,aV l,x.cells_len,aVs];omega
theorem yX (a b:List El):fl (a++b)=fl a++fl b:=List.flatMap_append
theorem yY {l:List El} {i:Nat} {x:El} (h:l[i]?=some x) (k:Nat) (hk:k<4):(fl l)[i*4+k]?=x.cells[k]?:=by
 induction l generalizing i with
 | nil=>simp at h
 | cons y l ih=>
  show (y.cells++fl l)[i*4+k]?=_
  cases i with
  | zero=>
   simp at h
   subst h
   rw [Nat.zero_mul,aWc,aV0 (by rw [y.cells_len];exact hk)]
  | succ i=>
   rw [aWa (by rw [y.cells_len];omega),y.cells_len,show (i+1)*4+k-4=i*4+k by omega]
   exact ih (by simpa using h)
theorem aKp:∀{l:List El} {i:Nat} (x:El),i<l.length→jE x.cells (fl l) (i*4)=fl (l.set i x)
 | y::l,0,x,_=>by
  rw [gV _ _ _ (by rw [aV,x.cells_len,aVs];omega)]
  show List.take (0*4) (fl (y::l))++x.cells++List.drop (0*4+4) (y.cells++fl l)=x.cells++fl l
  rw [Nat.zero_mul,List.take_zero,List.nil_append,aWc,List.drop_append_of_le_length (by rw [y.cells_len];exact aWf _),List.drop_of_length_le (by rw [y.cells_len];exact aWf _),List.nil_append]
 | y::l,i+1,x,h=>by
  have ih:=aKp (l:=l) (i:=i) x (by simpa using h)
  have hlen:i*4+x.cells.length≤(fl l).length:=by rw [aV,x.cells_len];have:i<l.length:=(by simpa using h);omega
  rw [gV _ _ _ hlen] at ih
  rw [gV _ _ _ (by rw [aV,x.cells_len,aVs];have:i<l.length:=(by simpa using h);omega)]
  show List.take ((i+1)*4) (y.cells++fl l)++x.cells++List.drop ((i+1)*4+x.cells.length) (y.cells++fl l)=y.cells++fl (l.set i x)
  rw [← ih,show (i+1)*4=y.cells.length+i*4 by rw [y.cells_len];omega,List.take_length_add_append,Nat.add_assoc,List.drop_length_add_append,aVt,aVt,aVt]
theorem LdN.el {h:aA} {L:Own} {bp:Nat} {l:List El} {zs:List Value} {i:Nat} {x:El} {T:TypeId} {fz:Nat × Nat} {k:Value→Prop} (n:Nat) (hb:L[n]?=some (bp,.cells (fl l++zs).toArray T fz)) (hx:l[i]?=some x) (hk:k (.agg x.cells.toArray)):LdN h L ⟨bp,0+i*4,none⟩ 4 k:=
 ⟨x.cells,rfl,fun j hj=>by
   rw [bD,aWc]
   refine Has.own n hb ?_
   have hj4:j<4:=hj
   have hi:=(aVr.1 hx).1
   rw [List.getElem?_toArray,aV0 (by rw [aV];omega),yY hx j hj4,aVp,aVq hj];rfl,hk⟩
theorem aE6 {l:List El} {zs:List Value} {i:Nat} (x:El) (h:i<l.length):jE x.cells (fl l++zs) (i*4)=fl (l.set i x)++zs:=by
 rw [← aKp x h,gV _ _ _ (by rw [aVo,aV,x.cells_len];omega),gV _ _ _ (by rw [aV,x.cells_len];omega)]
 rw [List.take_append_of_le_length (by rw [aV];omega),List.drop_append_of_le_length (by rw [aV,x.cells_len];omega),aVt,aVt,aVt]
theorem Sto.el {L:Own} {bp:Nat} {l:List El} {zs:List Value} {i:Nat} {x:El} {T:TypeId} {k:Own→Prop} (n:Nat) (hb:L[n]?=some (bp,.cells (fl l++zs).toArray T (0,0))) (hi:i<l.length) (hk:k (L.set n (bp,.cells (fl (l.set i x)++zs).toArray T (0,0)))):Sto L ⟨bp,0+i*4,none⟩ x.cells k:=by
 refine ⟨rfl,n,(fl l++zs).toArray,T,hb,?_,rfl,?_⟩
 ·rw [List.size_toArray,aVo,aV,x.cells_len];show 0+i*4+4≤_;omega
 ·rw [gC]
  show k (L.set n (bp,.cells (jE x.cells (fl l++zs) (0+i*4)).toArray T (0,0)))
  rw [aWc,aE6 x hi]
  exact hk
end Go.Vc
/- Lists of terms: two exchanged, runs turned about, runs cut: plain mathematics. -/
namespace Go.Vc
open Go Go.Dig
def leE (x y:El):Prop:=¬cL.lt y.m x.m
abbrev bX (l:List El):Prop:=l.Pairwise leE
theorem aBk (x:El):leE x x:=cL.irr _
theorem qD {a b c:El} (h:leE a b) (g:leE b c):leE a c:=qC (K:=Mon) (V:=Nat) (a:=(a.m,0)) (b:=(b.m,0)) (c:=(c.m,0)) h g
theorem yZ {a b:El} (h:cL.lt a.m b.m):leE a b:=fun x=>cL.irr _ (cL.tra h x)
def pe (x:El):Mon × El:=(x.m,x)
theorem aKq {l:List El}:aBj (l.map pe)↔bX l:=List.pairwise_map
theorem aT3 {a1 a2 b1 b2:List El} (ha:bX (a1++a2)) (hb:bX (b1++b2)) (h1:∀x y,a1.getLast?=some x→b2.head?=some y→leE x y) (h2:∀x y,b1.getLast?=some x→a2.head?=some y→leE x y):
  ∀x∈a1++b1,∀y∈a2++b2,leE x y:=by
 have h:=aKo (K:=Mon) (V:=El) (a1:=a1.map pe) (a2:=a2.map pe) (b1:=b1.map pe) (b2:=b2.map pe) (by rw [← aV3];exact aKq.2 ha) (by rw [← aV3];exact aKq.2 hb)
  (fun x y hx hy=>by
    rw [List.getLast?_map] at hx
    rw [List.head?_map] at hy
    obtain ⟨x',hx',rfl⟩:=Option.map_eq_some_iff.1 hx
    obtain ⟨y',hy',rfl⟩:=Option.map_eq_some_iff.1 hy
    exact h1 x' y' hx' hy')
  (fun x y hx hy=>by
    rw [List.getLast?_map] at hx
    rw [List.head?_map] at hy
    obtain ⟨x',hx',rfl⟩:=Option.map_eq_some_iff.1 hx
    obtain ⟨y',hy',rfl⟩:=Option.map_eq_some_iff.1 hy
    exact h2 x' y' hx' hy')
 intro x hx y hy
 exact h (pe x) (by rw [← aV3];exact List.mem_map_of_mem hx) (pe y) (by rw [← aV3];exact List.mem_map_of_mem hy)
theorem aG5 {a1 a2 b1 b2 m1 m2:List El} (h:∀x∈a1++b1,∀y∈a2++b2,leE x y) (o1:bX m1) (o2:bX m2) (p1:m1.Perm (a1++b1)) (p2:m2.Perm (a2++b2)):
  bX (m1++m2)∧(m1++m2).Perm ((a1++a2)++(b1++b2)):=by
 refine ⟨List.pairwise_append.2 ⟨o1,o2,fun x hx y hy=>h x (p1.mem_iff.1 hx) y (p2.mem_iff.1 hy)⟩,(p1.append p2).trans ?_⟩
 rw [aVt,aVt]
 refine List.Perm.append_left a1 ?_
 rw [← aVt,← aVt]
 exact List.Perm.append_right b2 List.perm_append_comm
/-! exchanging -/
theorem kC (A:List El) (x:El) (R:List El):(A++x::R)[A.length]?=some x:=by
 rw [aWa (aWf _),Nat.sub_self];rfl
theorem uE (A:List El) (x:El) (B:List El) (y:El) (C:List El):(A++x::(B++y::C))[A.length+1+B.length]?=some y:=by
 rw [aWa (by omega),show A.length+1+B.length-A.length=B.length+1 by omega,List.getElem?_cons_succ]
 exact kC B y C
theorem zA (A:List El) (x:El) (B:List El) (y:El) (C:List El):((A++x::(B++y::C)).set A.length y).set (A.length+1+B.length) x=A++y::(B++x::C):=by
 rw [List.set_append_right _ _ (aWf _),Nat.sub_self,List.set_cons_zero,List.set_append_right _ _ (by omega),show A.length+1+B.length-A.length=B.length+1 by omega,List.set_cons_succ,List.set_append_right _ _ (aWf _),Nat.sub_self,List.set_cons_zero]
theorem aKr (A:List El) (x:El) (B:List El) (y:El) (C:List El):((A++x::(B++y::C)).set (A.length+1+B.length) x).set A.length y=A++y::(B++x::C):=by
 rw [List.set_comm _ _ (by omega),zA]
theorem aKs (X Z Y Q1 P1 P2 Q2:List El) (p q:El) (h:P1.length=Q1.length) {a b i:Nat} (ha:a=X.length) (hi:i=P1.length) (hb:b=X.length+(P1.length+1+P2.length)+Z.length):
  (X++(Q1++p::P2)++Z++(P1++q::Q2)++Y)[a+i]?=some p∧(X++(Q1++p::P2)++Z++(P1++q::Q2)++Y)[b+i]?=some q∧
  (((X++(Q1++p::P2)++Z++(P1++q::Q2)++Y).set (a+i) q).set (b+i) p=X++((Q1++[q])++P2)++Z++((P1++[p])++Q2)++Y):=by
 have e:X++(Q1++p::P2)++Z++(P1++q::Q2)++Y=(X++Q1)++p::((P2++Z++P1)++q::(Q2++Y)):=by simp [aVt]
 have e1:a+i=(X++Q1).length:=by rw [aVo];omega
 have e2:b+i=(X++Q1).length+1+(P2++Z++P1).length:=by simp only [aVo];omega
 rw [e,e1,e2]
 refine ⟨kC _ _ _,uE _ _ _ _ _,?_⟩
 rw [zA];simp [aVt]
theorem aQm {L R:List El} (oL:bX L) (oR:bX R) {s t:Nat} (hs:s≤L.length) (ht:t≤R.length) (h1:∀x y,0<s→L[s-1]?=some x→R[t]?=some y→leE x y) (h2:∀x y,0<t→R[t-1]?=some x→L[s]?=some y→leE x y):
  ∀x∈L.take s++R.take t,∀y∈L.drop s++R.drop t,leE x y:=by
 have last:∀(l:List El) (n:Nat) (x:El),n≤l.length→(l.take n).getLast?=some x→0<n∧l[n-1]?=some x:=fun l n x hn h=>by
  rw [List.getLast?_eq_getElem?,aV9,List.getElem?_take,Nat.min_eq_left hn] at h
  split at h
  ·exact ⟨by omega,h⟩
  ·cases h
 have first:∀(l:List El) (n:Nat) (y:El),(l.drop n).head?=some y→l[n]?=some y:=fun l n y h=>by rw [List.head?_drop] at h;exact h
 refine aT3 (by rw [aV6];exact oL) (by rw [aV6];exact oR) (fun x y hx hy=>?_) (fun x y hx hy=>?_)
 ·obtain ⟨h0,hx'⟩:=last L s x hs hx
  exact h1 x y h0 hx' (first R t y hy)
 ·obtain ⟨h0,hx'⟩:=last R t x ht hx
  exact h2 x y h0 hx' (first L s y hy)
theorem aE7 {l:List El} (h:bX l) {i j:Nat} {x y:El} (hij:i≤j) (hx:l[i]?=some x) (hy:l[j]?=some y):leE x y:=by
 by_cases e:i=j
 ·subst e;rw [hx] at hy;cases hy;exact aBk x
 ·obtain ⟨h1,rfl⟩:=aVr.1 hx
  obtain ⟨h2,rfl⟩:=aVr.1 hy
  exact (List.pairwise_iff_getElem.1 h) i j h1 h2 (by omega)
theorem aOd {R:List El} (o:bX R) {e:El} {t:Nat} (h1:∀i x,i<t→R[i]?=some x→leE x e) (h2:∀i x,t≤i→R[i]?=some x→leE e x):bX (R.take t++e::R.drop t):=by
 refine List.pairwise_append.2 ⟨o.sublist (List.take_sublist ..),List.pairwise_cons.2 ⟨fun y hy=>?_,o.sublist (List.drop_sublist ..)⟩,fun x hx y hy=>?_⟩
 ·obtain ⟨i,hi,rfl⟩:=List.mem_iff_getElem.1 hy
  exact h2 (t+i) _ (by omega) (by rw [← List.getElem?_drop];exact aVq hi)
 ·obtain ⟨i,hi,rfl⟩:=List.mem_iff_getElem.1 hx
  have hi':=hi
  rw [aV9] at hi'
  have hxe:R[i]?=some ((R.take t)[i]):=by rw [List.getElem_take];exact aVq (by omega)
  have g1:=h1 i _ (by omega) hxe
  rcases aV7.1 hy with rfl|hy
  ·exact g1
  ·obtain ⟨j,hj,rfl⟩:=List.mem_iff_getElem.1 hy
   exact qD g1 (h2 (t+j) _ (by omega) (by rw [← List.getElem?_drop];exact aVq hj))
end Go.Vc