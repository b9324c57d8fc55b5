/- Values of atoms that suit the values of trees: an atom is read back: plain mathematics. -/
import Derived.Test.YtiohcpiloenmoaaGreatDoorE66
set_option linter.all false
namespace Go.Proofs.Y
open Go Go.Vc Go.Dig
end Go.Proofs.Y
/- Forms without limits; congruent trees have one value; a form's terms have the value of the tree: plain mathematics. -/
namespace Go.Proofs.Y
open Go Go.Vc Go.Dig
theorem aTp{l p:Pol}(h:cN l=.ok p):fP l=p:=by
 unfold cN at h
 split at h
 .cases h
 .split at h
  .cases h
  .cases h;rfl
end Go.Proofs.Y
/- Literals in the place of variables: what becomes of a polynomial form: plain mathematics. -/
namespace Go.Proofs.Y
open Go Go.Vc Go.Dig
section
variable (vals:List (List Nat × Rat))
def bnd(s:List UInt8):Option Rat:=if nmA s then lJ vals (s.map UInt8.toNat) else none
def al0(s:List UInt8):Rat:=(bnd vals s).getD 1
def rs(m:Mon):Mon:=m.filter fun t=>(bnd vals t.1).isNone
def sb(f:Mon->Rat)(m:Mon):Rat:=ph (al0 vals) m*f (rs vals m)
end
end Go.Proofs.Y
/- Simplifying keeps the form of a polynomial; the formal derivative: plain mathematics. -/
namespace Go.Proofs.Y
open Go Go.Vc Go.Dig
end Go.Proofs.Y
/- The formal derivative of a polynomial form: plain mathematics. -/
namespace Go.Proofs.Y
open Go Go.Vc Go.Dig
section
variable (x:List UInt8)
def dcM(m:Mon):Mon:=fP (m.map fun t=>(t.1,if t.1=x then t.2-1 else t.2))
def dn(f:Mon->Rat)(m:Mon):Rat:=((cf m x:Nat):Rat)*f (dcM x m)
end
end Go.Proofs.Y
/- The derivative of a polynomial has the formal derivative for its form: plain mathematics. -/
namespace Go.Proofs.Y
open Go Go.Vc Go.Dig
section
variable (x:List UInt8)
end
end Go.Proofs.Y
/- Congruence: what it tells; the ring; an equivalence: plain mathematics. -/
namespace Go.Proofs.Y
open Go Go.Vc Go.Dig
end Go.Proofs.Y
/- Products as the program forms them: exponents by atom, in any order; names cancelled; sorted: plain mathematics. -/
namespace Go.Dig
abbrev oK (l:Mon):Prop:=(l.map (·.1)).Nodup
theorem nM{t:Fac}{l:Mon}:oK (t::l)↔(∀u∈l,u.1≠t.1)/\oK l:=by
 unfold oK;rw[bAa,List.nodup_cons];refine and_congr ⟨fun h u hu e=>h (by rw[<-e];exact aZu hu),fun h hm=>?_⟩ Iff.rfl
 obtain⟨u,hu,e⟩:=List.mem_map.1 hm;exact h u hu e
theorem aG3{l:Mon}(h:oK l){i:Nat}{t:Fac}(ht:l[i]?=some t):cf l t.1=t.2:=by
 induction l generalizing i with
 | nil=>simp at ht
 | cons u l ih=>
  obtain⟨h1,h2⟩:=nM.1 h;cases i with
  | zero=>
   simp at ht;subst ht;rw[aR,if_pos rfl,aB9 h1,bAg]
  | succ i=>
   have ht':l[i]?=some t:=by simpa using ht
   rw[aR,if_neg (fun e=>h1 t (aY8 ht') e.symm)]
   exact ih h2 ht'
theorem aPy{l:Mon}{x:List UInt8}(h:x∉l.map (·.1)):cf l x=0:=aB9 fun t ht e=>h (by rw[<-e];exact aZu ht)
def etF(l:Mon)(x:List UInt8):Mon:=if x∈l.map (·.1) then l else l++[(x,0)]
theorem aTq{l:Mon}(h:oK l)(x:List UInt8):oK (etF l x):=by
 unfold etF
 split
 .exact h
 .rename_i hx;unfold oK;rw[aZh,bCj];exact⟨h,by simp,fun a ha b hb=>by simp at hb;subst hb;exact fun e=>hx (by rw[<-e];exact ha)⟩
theorem aX5(l:Mon)(x s:List UInt8):cf (etF l x) s=cf l s:=by
 unfold etF
 split
 .rfl
 .rw[jD,aR,pQ];show _+(if x=s then 0+0 else 0)=_
  split<;>rfl
theorem aTr{l:Mon}{i:Nat}{x:List UInt8}{v:Nat}(w:Nat)(h:oK l)(hi:l[i]?=some (x,v)):oK (l.set i (x,w))/\∀s,cf (l.set i (x,w)) s=if x=s then w else cf l s:=by
 induction l generalizing i with
 | nil=>simp at hi
 | cons u l ih=>
  obtain⟨h1,h2⟩:=nM.1 h;cases i with
  | zero=>
   simp at hi;subst hi;refine⟨nM.2 ⟨h1,h2⟩,fun s=>?_⟩
   rw[List.set_cons_zero,aR,aR];show (if x=s then _ else _)=if x=s then _ else (if x=s then _ else _)
   by_cases e:x=s
   .subst e;rw[if_pos rfl,if_pos rfl,aB9 h1,bAg]
   .rw[if_neg e,if_neg e,if_neg e]
  | succ i=>
   have hi':l[i]?=some (x,v):=by simpa using hi
   obtain⟨g1,g2⟩:=ih h2 hi';have hux:u.1≠x:=fun e=>h1 (x,v) (aY8 hi') e.symm
   refine⟨nM.2 ⟨fun t ht=>?_,g1⟩,fun s=>?_⟩
   .rcases bC0 ht with ht|rfl
    .exact h1 t ht
    .exact hux.symm
   .rw[bBc,aR,g2,aR];by_cases e:u.1=s
    .rw[if_pos e,if_pos e,if_neg (fun y=>hux (by rw[e,y])),if_neg (fun y=>hux (by rw[e,y]))]
    .rw[if_neg e,if_neg e]
theorem aV6{l:Mon}{i:Nat}{x:List UInt8}(n:Nat)(h:oK l)(hi:(etF l x)[i]?=some (x,cf l x)):oK ((etF l x).set i (x,cf l x+n))/\∀s,cf ((etF l x).set i (x,cf l x+n)) s=cf l s+(if x=s then n else 0):=by
 obtain⟨g1,g2⟩:=aTr (cf l x+n) (aTq h x) hi;refine⟨g1,fun s=>?_⟩
 rw[g2,aX5];by_cases e:x=s
 .subst e;rw[if_pos rfl,if_pos rfl]
 .rw[if_neg e,if_neg e,bAg]
theorem aV7{P:List UInt8->Prop}{l:Mon}{x:List UInt8}{i v:Nat}(hl:∀t∈l,P t.1)(hx:P x):∀t∈(etF l x).set i (x,v),P t.1:=fun t ht=>by
 rcases bC0 ht with ht|rfl
 .unfold etF at ht
  split at ht
  .exact hl t ht
  .rcases aZb.1 ht with ht|ht
   .exact hl t ht
   .rw[aZg] at ht;subst ht;exact hx
 .exact hx
theorem aV8(l:Mon)(x:List UInt8):(etF l x).length<=l.length+1:=by unfold etF;split<;>simp
theorem aTs{q:Mon}(g:List UInt8->Nat->Nat)(hg:∀s,g s 0=0)(h:oK q)(s:List UInt8):cf (q.map fun t=>(t.1,g t.1 t.2)) s=g s (cf q s):=by
 induction q with
 | nil=>exact (hg s).symm
 | cons t q ih=>
  obtain⟨h1,h2⟩:=nM.1 h;rw[bAa,aR,aR,ih h2]
  split
  .rename_i e;subst e;rw[aB9 h1,hg];rfl
  .rfl
def cnF(l:Mon)(t:Fac):Nat:=t.2-min t.2 (rv l t.1)
def cnL(l d:Mon):Mon:=(d.map fun t=>(t.1,cnF l t)).filter fun t=>!decide (t.2=0)
theorem aE2(l d:Mon)(t:Fac):cnL l (d++[t])=cnL l d++(if cnF l t=0 then [] else [(t.1,cnF l t)]):=by
 unfold cnL;rw[aZh,bBu]
 congr 1
 by_cases e:cnF l t=0
 .rw[if_pos e];simp[e]
 .rw[if_neg e];simp[e]
theorem aTt(l d:Mon):(cnL l d).length<=d.length:=by
 unfold cnL;exact aZr (bCw ..) Ar
theorem aX6{l m:Mon}(h:∀s,cf l s=cf m s)(s:List UInt8):rv l s=rv m s:=by
 unfold rv;cases inv s with
 | none=>rfl
 | some u=>exact h u
theorem aTu{a b l out:Mon}(hk:oK l)(hc:∀s,cf l s=cf (a++b) s)(hp:out.Perm (cnL l l))(hs:out.Pairwise fun s t=>¬t.1<s.1):out=jn a b:=by
 have hkey:oK out:=by
  unfold oK;refine (hp.map _).nodup_iff.2 ?_;unfold cnL;refine ((List.filter_sublist (l:=l.map fun t=>(t.1,cnF l t))).map (·.1)).nodup ?_
  rw[bCr];exact hk
 have hne:out.Pairwise fun s t=>s.1≠t.1:=List.pairwise_map.1 hkey
 have hsr:tY out:=(hs.and hne).imp fun {s t} hst=>by
  rcases oF s.1 t.1 with h|h|h
  .exact h
  .exact absurd h hst.2
  .exact absurd h hst.1
 refine vP ⟨hsr,fun t ht=>?_⟩ (aOy a b) fun s=>?_
 .have:=(List.mem_filter.1 (hp.mem_iff.1 ht)).2
  simpa using this
 .rw[aIj hp];unfold cnL;rw[nH];have e:=aTs (fun s n=>n-min n (rv l s)) (fun s=>Nat.zero_sub _) hk s
  rw[show (l.map fun t=>(t.1,cnF l t))=l.map fun t=>(t.1,t.2-min t.2 (rv l t.1)) from rfl,e,aOw,hc,jD,aX6 hc]
theorem aV9(a b:Mon):(jn a b).length<=a.length+b.length:=by
 have h1:∀(k:List UInt8) (v:Nat) (q:Mon),(mO k v q).length<=q.length+1:=by
  intro k v q
  induction q with
  | nil=>simp[mO]
  | cons t q ih=>
   obtain⟨n,d⟩:=t;unfold mO
   split
   .simp
   .split
    .simp
    .simp only[aY6];omega
 have h2:∀q:Mon,(sM q).length<=q.length:=by
  intro q
  induction q with
  | nil=>simp[sM]
  | cons t q ih=>
   show (mO t.1 t.2 (sM q)).length<=_
   have:=h1 t.1 t.2 (sM q);rw[aY6];omega
 unfold jn fP;refine aZr (bCw ..) (aZr (h2 _) ?_);rw[aZp];refine aZr (h2 _) ?_;rw[aY2];exact aZt _
theorem aTv{P:List UInt8->Prop}{a b:Mon}(ha:∀t∈a,P t.1)(hb:∀t∈b,P t.1):∀t∈jn a b,P t.1:=by
 have h1:∀(k:List UInt8) (v:Nat) (q:Mon),P k->(∀t∈q,P t.1)->∀t∈mO k v q,P t.1:=by
  intro k v q hk
  induction q with
  | nil=>intro _ t ht;unfold mO at ht;rw[aZg] at ht;subst ht;exact hk
  | cons n q ih=>
   intro hq t ht;obtain⟨n,d⟩:=n;unfold mO at ht
   split at ht
   .rcases aZl.1 ht with rfl|ht
    .exact hk
    .exact hq t ht
   .split at ht
    .rcases aZl.1 ht with rfl|ht
     .exact hq (n,d) (aZa ..)
     .exact hq t (aZd _ ht)
    .rcases aZl.1 ht with rfl|ht
     .exact hq (n,d) (aZa ..)
     .exact ih (fun t ht=>hq t (aZd _ ht)) t ht
 have h2:∀q:Mon,(∀t∈q,P t.1)->∀t∈sM q,P t.1:=by
  intro q
  induction q with
  | nil=>intro _ t ht;exact absurd ht (by simp[sM])
  | cons u q ih=>intro h;exact h1 _ _ _ (h u (aZa ..)) (ih fun t ht=>h t (aZd _ ht))
 intro t ht;unfold jn fP at ht;refine h2 _ (fun u hu=>?_) t (List.mem_filter.1 ht).1
 obtain⟨v,hv,rfl⟩:=List.mem_map.1 hu;refine h2 _ (fun u hu=>?_) v hv
 rcases aZb.1 hu with hu|hu
 .exact ha u hu
 .exact hb u hu
theorem aTw{m:Mon}(h:tY m){S:List (List UInt8)}(hS:∀t∈m,t.1∈S):m.length<=S.length:=by
 have hn:(m.map (·.1)).Nodup:=by
  unfold List.Nodup;rw[List.pairwise_map];exact h.imp fun {s t} hlt e=>by rw[e] at hlt;exact dM.irr _ hlt
 have:(m.map (·.1)).length<=S.length:=hn.length_le_of_subset fun x hx=>by
  obtain⟨t,ht,rfl⟩:=List.mem_map.1 hx;exact hS t ht
 simpa using this
def yG(l:Mon)(S:List Nat):Mon:=S.map fun i=>l.getD i ([],0)
theorem aAv{l:Mon}{S:List Nat}{i:Nat}{t:Fac}(h:l[i]?=some t):yG l (S++[i])=yG l S++[t]:=by
 unfold yG;rw[aZh,bAa,bBd,aY3,h];rfl
theorem aLa{l:Mon}{S:List Nat}(hn:S.Nodup)(hl:∀i∈S,i<l.length)(ha:∀i,i<l.length->i∈S):(yG l S).Perm l:=by
 have hp:S.Perm (List.range l.length):=(List.perm_ext_iff_of_nodup hn List.nodup_range).2 fun i=>by rw[List.mem_range];exact⟨hl i,ha i⟩
 have e:(List.range l.length).map (fun i=>l.getD i ([],0))=l:=by
  refine bCh fun i=>?_
  rw[bB6];by_cases h:i<l.length
  .rw[List.getElem?_range h,aY4 h];simp[aY3,h]
  .rw[aZ1 (by simpa using h),aZ1 Aa];rfl
 have:=hp.map fun i=>l.getD i ([],0)
 rw[e] at this;exact this
theorem aPz{l d e:Mon}(h:d.Perm e):(cnL l d).Perm (cnL l e):=(h.map _).filter _
theorem aG4{S:List Nat}{i:Nat}(h:S.Nodup)(hi:i∉S):(S++[i]).Nodup:=by
 rw[bCj];exact⟨h,by simp,fun a ha b hb=>by simp at hb;subst hb;exact fun e=>hi (by rw[<-e];exact ha)⟩
theorem aTx{l:Mon}{S:List Nat}(hn:S.Nodup)(hl:∀i∈S,i<l.length):S.length<=l.length:=by
 have:=hn.length_le_of_subset (l₂:=List.range l.length) fun i hi=>List.mem_range.2 (hl i hi)
 simpa using this
theorem aX7{l:Mon}{M:Nat}(h:∀t∈l,t.2<=M)(s:List UInt8):cf l s<=l.length*M:=by
 induction l with
 | nil=>exact aZs _
 | cons t l ih=>
  have h1:=ih fun u hu=>h u (aZd _ hu)
  have h2:=h t (aZa ..);rw[aR,aY6,aZ8,bBs]
  split<;>omega
end Go.Dig
/- What every form is bounded by: its atoms come from a short store of short texts: plain mathematics. -/
namespace Go.Proofs.Y
open Go Go.Vc Go.Dig
def InS(S:List (List UInt8))(p:Pol):Prop:=∀t∈p,∀f∈t.1,f.1∈S
structure PG (S:List (List UInt8)) (p:Pol):Prop where
 good:oV p
 key:InS S p
def Sok(S:List (List UInt8)):Prop:=∀s∈S,s.length<=4000
theorem PG.len{S:List (List UInt8)}{p:Pol}(w:PG S p):∀t∈p,t.1.length<=S.length:=fun t ht=>aTw (w.good.red t ht).1.1 (w.key t ht)
theorem InS.mono{S S':List (List UInt8)}{p:Pol}(h:∀s∈S,s∈S')(w:InS S p):InS S' p:=fun t ht f hf=>h _ (w t ht f hf)
theorem PG.mono{S S':List (List UInt8)}{p:Pol}(h:∀s∈S,s∈S')(w:PG S p):PG S' p:=⟨w.good,w.key.mono h⟩
theorem aWa{S:List (List UInt8)}{a b:Pol}(ha:InS S a)(hb:InS S b):InS S (tmL a b):=fun t ht=>by
 unfold tmL at ht;obtain⟨x,hx,ht⟩:=List.mem_flatMap.1 ht;obtain⟨y,hy,rfl⟩:=List.mem_map.1 ht;exact aTv (P:=fun s=>s∈S) (ha x hx) (hb y hy)
theorem aWb{S:List (List UInt8)}{a b:Pol}(k:Rat)(ha:InS S a)(hb:InS S b):InS S (plL a b k):=fun t ht=>by
 unfold plL at ht;rcases aZb.1 ht with ht|ht
 .exact ha t ht
 .obtain⟨y,hy,rfl⟩:=List.mem_map.1 ht;exact hb y hy
theorem aE3{S:List (List UInt8)}{l p:Pol}(h:InS S l)(e:cN l=.ok p):InS S p:=by
 rw[<-aTp e];exact aEv (P:=fun m:Mon=>∀f∈m,f.1∈S) h
theorem aE4{S:List (List UInt8)}{a b p:Pol}(ha:InS S a)(hb:InS S b)(e:cN (tmL a b)=.ok p):PG S p:=⟨aAr (aVy a b) e,aE3 (aWa ha hb) e⟩
theorem aP0{S:List (List UInt8)}{a b p:Pol}(k:Rat)(ha:PG S a)(hb:PG S b)(e:cN (plL a b k)=.ok p):PG S p:=⟨aAr (aVz k ha.good.red hb.good.red) e,aE3 (aWb k ha.key hb.key) e⟩
theorem yH:oV []:=⟨⟨List.Pairwise.nil,fun _ h=>by simp at h⟩,fun _ h=>by simp at h,fun _ h=>by simp at h,fun _ h=>by simp at h,aZs _⟩
theorem sY{m:Mon}{q:Rat}(hm:yW m)(hd:∀f∈m,f.2<=64)(h0:q≠0)(hf:fits q):oV [(m,q)]:=
 ⟨⟨List.pairwise_cons.2 ⟨fun _ h=>(by simp at h),List.Pairwise.nil⟩,fun t h=>by rw[aZg] at h;subst h;exact h0⟩,
   fun t h=>by rw[aZg] at h;subst h;exact hm,fun t h=>by rw[aZg] at h;subst h;exact hd,fun t h=>by rw[aZg] at h;subst h;exact hf,by simp⟩
theorem aWc{q:Rat}(hf:fits q):PG [] (uY q):=by
 unfold uY
 split
 .exact⟨yH,fun t ht=>by simp at ht⟩
 .rename_i h0;exact⟨sY aCa (fun f hf=>by simp at hf) h0 hf,fun t ht f hf=>by rw[aZg] at ht;subst ht;simp at hf⟩
theorem aAw{s:List UInt8}{p:Pol}(h:eK s=.ok p):s.length<=4000/\PG [s] p:=by
 unfold eK at h
 split at h
 .cases h
 .rename_i hl;cases h;exact⟨Aa,sY (aS1 s) (fun f hf=>by rw[aZg] at hf;subst hf;show 1<=64;omega) Ag fA,fun t ht f hf=>by
    rw[aZg] at ht;subst ht;exact aZg.2 (by rw[aZg.1 hf])⟩
theorem yI{q:Rat}(h0:q≠0)(h:fits q):fits (1 / q):=by
 have hn:nu q≠0:=fun e=>h0 (dS.1 e)
 rw[bDj,Rat.one_mul];unfold fits;rw[rG q hn,den_inv q hn];exact⟨h.2,h.1⟩
theorem aE5{q:Rat}(h0:q≠0):1 / q≠0:=by
 rw[bDj,Rat.one_mul];intro e;have:q*q⁻¹=q*0:=by rw[e]
 rw[Rat.mul_inv_cancel q h0,Rat.mul_zero] at this;exact absurd this Ag
theorem sZ{b:Tr}{a p:Pol}(ha:oV a)(h:fK b a=.ok p):∃S:List (List UInt8),S.length<=1/\Sok S/\PG S p:=by
 unfold fK at h
 split at h
 .rename_i c;cases h;have h0:c≠0:=ha.can.2 ([],c) (aZa ..);have hf:fits c:=ha.fit ([],c) (aZa ..);exact⟨[],aZs _,fun s hs=>by simp at hs,sY aCa (fun f hf=>by simp at hf) (aE5 h0) (yI h0 hf),fun t ht f hf=>by rw[aZg] at ht;subst ht;simp at hf⟩
 .split at h
  .cases h
  .obtain⟨h1,h2⟩:=aAw h;exact⟨[_],aZt _,fun s hs=>by rw[aZg] at hs;subst hs;exact h1,h2⟩
theorem aCo(S:List (List UInt8)):PG S [([],1)]:=⟨sY aCa (fun f hf=>by simp at hf) Ag fA,fun t ht f hf=>by rw[aZg] at ht;subst ht;simp at hf⟩
theorem aG5{S:List (List UInt8)}{a:Pol}(ha:PG S a):∀{n:Nat} {p:Pol},nJ a n=.ok p->PG S p
 | 0,p,h=>by cases h;exact aCo S
 | n+1,p,h=>by
  unfold nJ at h;cases ho:nJ a n with
  | error e=>rw[ho] at h;cases h
  | ok o=>
   rw[ho] at h;exact aE4 (aG5 ha ho).key ha.key h
theorem qQ:∀(t:Tr) (d:Nat),okT d t->∀{p:Pol},bT t=.ok p->∃S:List (List UInt8),S.length<=szT t/\Sok S/\PG S p:=by
 refine dX fun t ih=>?_
 intro d hok p hp;obtain⟨op,arg,neg,l,m,name,ks⟩:=t;rw[okT] at hok;obtain⟨-,hnb,hoks⟩:=hok;have ih':∀k,k∈ks->∀{p:Pol},bT k=.ok p->∃S:List (List UInt8),S.length<=szT k/\Sok S/\PG S p:=fun k hk=>by
  obtain⟨j,hj,e⟩:=List.mem_iff_getElem.1 hk;exact ih k (bM (j:=j) (by rw[aY4 hj,e])) (d+1) (dY hoks hk)
 have two:∀{S1 S2:List (List UInt8)},Sok S1->Sok S2->Sok (S1++S2):=fun h1 h2 s hs=>(aZb.1 hs).elim (h1 s) (h2 s)
 rw[bT] at hp;unfold gO at hp;rw[szT];by_cases h1:op=1
 .rw[if_pos h1] at hp;cases hp;have hn:=hnb.2.2.2.2;rw[if_pos h1] at hn;have hz:=hn.1.sz;exact⟨[],aZs _,fun s hs=>by simp at hs,aWc ⟨hz.num,hz.den⟩⟩
 rw[if_neg h1] at hp;by_cases h2:¬(4<=op/\op<=9)
 .rw[if_neg h2] at hp;obtain⟨q1,q2⟩:=aAw hp;exact⟨[_],by rw[aZ0];omega,fun s hs=>by rw[aZg] at hs;subst hs;exact q1,q2⟩
 replace h2:=Decidable.not_not.1 h2;rw[if_pos h2] at hp
 match ks,ih',hp with
 | [],_,hp=>rw[jG] at hp;cases hp
 | k::r,ih',hp=>
  rw[jG] at hp;rw[dA];cases ha:bT k with
  | error n=>rw[ha] at hp;cases hp
  | ok a=>
   rw[ha] at hp;obtain⟨S1,z1,s1,g1⟩:=ih' k (aZa ..) ha;dsimp only at hp;by_cases h4:op=4
   .rw[if_pos h4] at hp;exact⟨S1,Aa,s1,aP0 _ ⟨yH,fun t ht=>by simp at ht⟩ g1 hp⟩
   rw[if_neg h4] at hp;by_cases h9:op=9
   .rw[if_pos h9] at hp;by_cases hn:arg<0
    .rw[if_pos hn] at hp;cases hc:fK k a with
     | error n=>rw[hc] at hp;cases hp
     | ok c=>
      rw[hc] at hp;obtain⟨S2,z2,s2,g2⟩:=sZ g1.good hc;exact⟨S2,Aa,s2,aG5 g2 hp⟩
    .rw[if_neg hn] at hp;exact⟨S1,Aa,s1,aG5 g1 hp⟩
   rw[if_neg h9] at hp
   match r,ih',hp with
   | [],_,hp=>rw[jG] at hp;cases hp
   | k'::r,ih',hp=>
    rw[jG] at hp;rw[dA];cases hb:bT k' with
    | error n=>rw[hb] at hp;cases hp
    | ok b=>
     rw[hb] at hp;obtain⟨S2,z2,s2,g2⟩:=ih' k' (aZd _ (aZa ..)) hb;have m1:PG (S1++S2) a:=g1.mono fun s hs=>aZv _ hs
     have m2:PG (S1++S2) b:=g2.mono fun s hs=>aZw _ hs
     have z12:(S1++S2).length<=1+(szT k+(szT k'+dA r)):=by rw[aY2];omega
     dsimp only at hp;by_cases h5:op=5
     .rw[if_pos h5] at hp;exact⟨_,z12,two s1 s2,aP0 _ m1 m2 hp⟩
     rw[if_neg h5] at hp;by_cases h6:op=6
     .rw[if_pos h6] at hp;exact⟨_,z12,two s1 s2,aP0 _ m1 m2 hp⟩
     rw[if_neg h6] at hp;by_cases h7:op=7
     .rw[if_pos h7] at hp;exact⟨_,z12,two s1 s2,aE4 m1.key m2.key hp⟩
     rw[if_neg h7] at hp;cases hc:fK k' b with
     | error n=>rw[hc] at hp;cases hp
     | ok c=>
      rw[hc] at hp;obtain⟨S3,z3,s3,g3⟩:=sZ g2.good hc;have h0:=sI k';exact⟨S1++S3,by rw[aY2];omega,two s1 s3,aE4 (g1.mono fun s hs=>aZv _ hs).key (g3.mono fun s hs=>aZw _ hs).key hp⟩
end Go.Proofs.Y