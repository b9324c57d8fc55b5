/- Values of atoms that suit the values of trees: an atom is read back: plain mathematics. -/
import Derived.Test.YtdccpmlhflpeaaaGreatDoorE93
set_option linter.all false
namespace Go.Proofs.Y
open Go Go.Vc Go.Dig
theorem aCl{p:Nat->Bool}:∀{l:List Nat},(l.takeWhile p).length=l.length->∀y∈l,p y=true
 | [],_,y,h=>by simp at h
 | c::l,e,y,h=>by
  rw[bF0] at e
  split at e
  .rename_i hc;rcases bDp.1 h with rfl|h
   .exact hc
   .exact aCl (by simpa using e) y h
  .simp at e
theorem aHc{n:List Nat}(h:fE n):∃c r,n=c::r/\ltr c=true/\∀y∈r,aln y=true:=by
 have h2:=h.2.1;have h3:=h.2.2.1;cases n with
 | nil=>exact absurd rfl h3
 | cons c r=>
  have e:cZ (c::r)=if ltr c=true then (r.takeWhile aln).length+1 else 0:=rfl
  rw[e] at h2
  split at h2
  .rename_i hc;exact⟨c,r,rfl,hc,aCl (by simpa using h2)⟩
  .simp at h2
theorem aCm{n:List Nat}(h:fE n):∀y∈n,y<256:=by
 obtain⟨c,r,rfl,hc,hr⟩:=aHc h;have hl:=kG.1 hc;intro y hy;rcases bDp.1 hy with rfl|hy
 .omega
 .rcases aDy.1 (hr y hy) with x|x
  .have:=kG.1 x;omega
  .have:=eN.1 x;omega
theorem aAt{l:List Nat}(h:∀y∈l,y<256):(b8 l).map UInt8.toNat=l:=by
 unfold b8;rw[bGx];conv=>rhs;rw[<-List.map_id l]
 refine bHh fun y hy=>?_
 show (UInt8.ofNat y).toNat=y
 rw[UInt8.toNat_ofNat'];exact bEl (h y hy)
mutual
theorem aHd{vals:List (List Nat × Rat)}:∀{t u:Tr},key t=key u->dP vals t=dP vals u
 | .mk op arg neg l m name ks,.mk op' arg' neg' l' m' name' ks',e=>by
  rw[key,key,Kt.mk.injEq] at e;obtain⟨rfl,rfl,e3,rfl,e5⟩:=e;rw[dP,dP,e3,aCn e5]
theorem aCn{vals:List (List Nat × Rat)}:∀{ts us:List Tr},gI ts=gI us->bT vals ts=bT vals us
 | [],us,e=>by rw[pA e]
 | t::ts,us,e=>by
  obtain⟨u,us',rfl,e1,e2⟩:=mG e;rw[bT,bT,aHd e1,aCn e2]
end
theorem aWz{l:List Nat}{c:Nat}{r:List Nat}(e:l=c::r)(hc:c≠49)(hb:∀y∈l,y<256):(b8 l).take 4≠iL:=fun h=>by
 have this:(((b8 l).take 4).map UInt8.toNat).head?=(iL.map UInt8.toNat).head?:=by rw[h]
 have h2:((b8 l).take 4).map UInt8.toNat=(((b8 l).map UInt8.toNat)).take 4:=List.map_take;rw[h2,aAt hb,e] at this;exact hc (Option.some.inj this)
end Go.Proofs.Y
/- Forms without limits; congruent trees have one value; a form's terms have the value of the tree: plain mathematics. -/
namespace Go.Proofs.Y
open Go Go.Vc Go.Dig
def pR(b:Tr)(a:Pol):Pol:=match a with
 | [([],c)]=>[([],1 / c)]
 | _=>[([(iL++b8 (bM (aK b,dB b.op) 3),1)],1)]
def dW(a:Pol):Nat->Pol
 | 0=>[([],1)]
 | n+1=>aV (tmL (dW a n) a)
def unN(e:Tr)(op arg:Int)(q:Rat)(rs:List (Tr × Pol)):Pol:=
 if op=1 then fO q
 else if 4<=op/\op<=9 then
  match rs with
  | []=>[]
  | (k,a)::r=>
   if op=4 then aV (plL [] a (-1))
   else if op=9 then if arg<0 then dW (pR k a) arg.natAbs else dW a arg.natAbs
   else match r with
    | []=>[]
    | (k',b)::_=>
     if op=5 then aV (plL a b 1)
     else if op=6 then aV (plL a b (-1))
     else if op=7 then aV (tmL a b)
     else aV (tmL a (pR k' b))
 else [([(b8 (aK e),1)],1)]
mutual
def unP:Tr->Pol
 | .mk op arg neg l m name ks=>unN (.mk op arg neg l m name ks) op arg (aN neg l m) (kD ks)
def kD:List Tr->List (Tr × Pol)
 | []=>[]
 | t::ts=>(t,unP t)::kD ts
end
theorem pS{l p:Pol}(h:cV l=.ok p):aV l=p:=by
 unfold cV at h
 split at h
 .cases h
 .split at h
  .cases h
  .cases h;rfl
theorem aCo{s:List UInt8}{p:Pol}(h:gR s=.ok p):[([(s,1)],1)]=p:=by
 unfold gR at h
 split at h
 .cases h
 .cases h;rfl
theorem aHe{b:Tr}{a p:Pol}(h:jL b a=.ok p):pR b a=p:=by
 unfold jL at h;unfold pR
 split at h
 .cases h;rfl
 .rename_i hn
  split at h
  .cases h
  .split
   .rename_i c;exact absurd rfl (hn c)
   .exact aCo h
theorem aJx{a:Pol}:∀{n:Nat} {p:Pol},mW a n=.ok p->dW a n=p
 | 0,p,h=>by cases h;rfl
 | n+1,p,h=>by
  unfold mW at h;cases ho:mW a n with
  | error e=>rw[ho] at h;cases h
  | ok o=>
   rw[ho] at h;unfold dW;rw[aJx ho];exact pS h
theorem aW0:∀(t:Tr) {p:Pol},bU t=.ok p->unP t=p:=by
 refine bN fun t ih=>?_
 intro p hp;obtain⟨op,arg,neg,l,m,name,ks⟩:=t;have ih':∀k,k∈ks->∀{p:Pol},bU k=.ok p->unP k=p:=fun k hk=>by
  obtain⟨j,hj,e⟩:=List.mem_iff_getElem.1 hk;exact ih k (aP (j:=j) (by rw[bC8 hj,e]))
 rw[bU] at hp;rw[unP];unfold iI at hp;unfold unN;by_cases h1:op=1
 .rw[if_pos h1] at hp ⊢;cases hp;rfl
 rw[if_neg h1] at hp ⊢;by_cases h2:¬(4<=op/\op<=9)
 .rw[if_neg h2] at hp ⊢;exact aCo hp
 replace h2:=Decidable.not_not.1 h2;rw[if_pos h2] at hp ⊢
 match ks,ih',hp with
 | [],_,hp=>rw[eJ] at hp;cases hp
 | k::r,ih',hp=>
  rw[eJ] at hp;rw[kD];cases ha:bU k with
  | error n=>rw[ha] at hp;cases hp
  | ok a=>
   rw[ha] at hp;rw[ih' k (bDe ..) ha];dsimp only at hp ⊢;by_cases h4:op=4
   .rw[if_pos h4] at hp ⊢;exact pS hp
   rw[if_neg h4] at hp ⊢;by_cases h9:op=9
   .rw[if_pos h9] at hp ⊢;by_cases hn:arg<0
    .rw[if_pos hn] at hp ⊢;cases hc:jL k a with
     | error n=>rw[hc] at hp;cases hp
     | ok c=>
      rw[hc] at hp;rw[aHe hc];exact aJx hp
    .rw[if_neg hn] at hp ⊢;exact aJx hp
   rw[if_neg h9] at hp ⊢
   match r,ih',hp with
   | [],_,hp=>rw[eJ] at hp;cases hp
   | k'::r,ih',hp=>
    rw[eJ] at hp;rw[kD];cases hb:bU k' with
    | error n=>rw[hb] at hp;cases hp
    | ok b=>
     rw[hb] at hp;rw[ih' k' (bDh _ (bDe ..)) hb];dsimp only at hp ⊢;by_cases h5:op=5
     .rw[if_pos h5] at hp ⊢;exact pS hp
     rw[if_neg h5] at hp ⊢;by_cases h6:op=6
     .rw[if_pos h6] at hp ⊢;exact pS hp
     rw[if_neg h6] at hp ⊢;by_cases h7:op=7
     .rw[if_pos h7] at hp ⊢;exact pS hp
     rw[if_neg h7] at hp ⊢;cases hc:jL k' b with
     | error n=>rw[hc] at hp;cases hp
     | ok c=>
      rw[hc] at hp;rw[aHe hc];exact pS hp
end Go.Proofs.Y
/- Literals in the place of variables: what becomes of a polynomial form: plain mathematics. -/
namespace Go.Proofs.Y
open Go Go.Vc Go.Dig
def Pln(m:Mon):Prop:=∀t∈m,t.1.take 4≠iL
theorem rN{m:Mon}(h:Pln m){s:List UInt8}(hs:s.take 4=iL):cf m s=0:=zU fun t ht e=>h t ht (by rw[e];exact hs)
theorem aHf{s u:List UInt8}(h:inv s=some u):s.take 4=iL\/u.take 4=iL:=by
 rcases aWb.1 h with ⟨-,rfl⟩|⟨-,rfl⟩
 .exact .inr rfl
 .exact .inl rfl
theorem aEq{a b:Mon}(ha:Pln a)(hb:Pln b)(s:List UInt8):cf (jn a b) s=cf a s+cf b s:=by
 rw[rF,nS];have e:∀m:Mon,Pln m->cf m s=0\/rv m s=0:=fun m hm=>by
  unfold rv;cases hi:inv s with
  | none=>exact .inr rfl
  | some u=>
   rcases aHf hi with h|h
   .exact .inl (rN hm h)
   .exact .inr (rN hm h)
 by_cases hs:s.take 4=iL
 .rw[rN ha hs,rN hb hs];omega
 .have e':∀m:Mon,Pln m->rv m s=0:=fun m hm=>by
   unfold rv;cases hi:inv s with
   | none=>rfl
   | some u=>exact rN hm ((aHf hi).resolve_left hs)
  rw[e' a ha,e' b hb];omega
theorem aZ8{a b:Mon}(ha:Pln a)(hb:Pln b):Pln (jn a b):=fun t ht hs=>by
 have h1:=pM (mQ a b).1 ht;rw[aEq ha hb,rN ha hs,rN hb hs] at h1;exact (mQ a b).2 t ht h1.symm
def pT(p:Pol):Prop:=∀t∈p,Pln t.1
section
variable (vals:List (List Nat × Rat))
def bnd(s:List UInt8):Option Rat:=if nmA s then jV vals (s.map UInt8.toNat) else none
def al0(s:List UInt8):Rat:=(bnd vals s).getD 1
def rs(m:Mon):Mon:=m.filter fun t=>(bnd vals t.1).isNone
def sb(f:Mon->Rat)(m:Mon):Rat:=ph (al0 vals) m*f (rs vals m)
def Sub(p' p:Pol):Prop:=pT p/\pT p'/\∀f,sm f p'=sm (sb vals f) p
theorem sD{l:Pol}(h:pT l):pT (aV l):=oV (P:=Pln) h
theorem aS8{a b:Pol}(ha:pT a)(hb:pT b):pT (tmL a b):=fun t ht=>by
 unfold tmL at ht;obtain⟨x,hx,ht⟩:=List.mem_flatMap.1 ht;obtain⟨y,hy,rfl⟩:=List.mem_map.1 ht;exact aZ8 (ha x hx) (hb y hy)
theorem aS9{a b:Pol}(k:Rat)(ha:pT a)(hb:pT b):pT (plL a b k):=fun t ht=>by
 unfold plL at ht;rcases bDf.1 ht with ht|ht
 .exact ha t ht
 .obtain⟨y,hy,rfl⟩:=List.mem_map.1 ht;exact hb y hy
theorem Sub.con(q:Rat):Sub vals (fO q) (fO q):=by
 have h:pT (fO q):=fun t ht f hf=>by
  unfold fO at ht
  split at ht
  .simp at ht
  .rw[bDk] at ht;subst ht;simp at hf
 refine⟨h,h,fun f=>?_⟩
 unfold fO
 split
 .rfl
 .show q*f []+0=q*(1*f [])+0
  rw[bEt]
end
theorem aTa{e:Tr}{arg:Int}{q:Rat}{r:List (Tr × Pol)}:unN e 1 arg q r=fO q:=by unfold unN;rw[if_pos rfl]
theorem aEr{e:Tr}{op arg:Int}{q:Rat}{r:List (Tr × Pol)}(h1:op≠1)(h2:¬(4<=op/\op<=9)):unN e op arg q r=[([(b8 (aK e),1)],1)]:=by unfold unN;rw[if_neg h1,if_neg h2]
theorem aTb{e k:Tr}{arg:Int}{q:Rat}{a:Pol}:unN e 4 arg q [(k,a)]=aV (plL [] a (-1)):=by
 unfold unN;rw[if_neg Ad,if_pos Ad];exact if_pos rfl
theorem aZ9{e k:Tr}{arg:Int}{q:Rat}{a:Pol}(h:0<=arg):unN e 9 arg q [(k,a)]=dW a arg.natAbs:=by
 unfold unN;rw[if_neg Ad,if_pos Ad];exact (if_neg Ad).trans ((if_pos rfl).trans (if_neg Aa))
theorem bAa{e k k':Tr}{arg:Int}{q:Rat}{a b:Pol}:unN e 5 arg q [(k,a),(k',b)]=aV (plL a b 1):=by
 unfold unN;rw[if_neg Ad,if_pos Ad];exact (if_neg Ad).trans ((if_neg Ad).trans (if_pos rfl))
theorem bAb{e k k':Tr}{arg:Int}{q:Rat}{a b:Pol}:unN e 6 arg q [(k,a),(k',b)]=aV (plL a b (-1)):=by
 unfold unN;rw[if_neg Ad,if_pos Ad];exact (if_neg Ad).trans ((if_neg Ad).trans ((if_neg Ad).trans (if_pos rfl)))
theorem bAc{e k k':Tr}{arg:Int}{q:Rat}{a b:Pol}:unN e 7 arg q [(k,a),(k',b)]=aV (tmL a b):=by
 unfold unN;rw[if_neg Ad,if_pos Ad];exact (if_neg Ad).trans ((if_neg Ad).trans ((if_neg Ad).trans ((if_neg Ad).trans (if_pos rfl))))
theorem gY(x:Rat):-1*x=-x:=by rw[bH4,bEt]
theorem bAd(q:Rat)(f:Mon->Rat):sm f (unP (mkL q))=q*f []/\pT (unP (mkL q)):=by
 have hn:∀x:Rat,0<=x->unP (numQ x)=fO x:=fun x hx=>by
  unfold numQ;rw[unP,aTa,jF]
 have hc:∀x:Rat,sm f (fO x)=x*f []:=fun x=>by
  unfold fO
  split
  .rename_i h;rw[h,bEz];rfl
  .show x*f []+0=_
   rw[bFs]
 unfold mkL
 split
 .rename_i hq;have h0:0<=-q:=by rw[<-Rat.neg_zero];exact Rat.neg_le_neg (Rat.le_of_lt hq)
  unfold aF;rw[unP,kD,kD,aTb];show sm f (aV (plL [] (unP (numQ (-q))) (-1)))=_/\pT (aV (plL [] (unP (numQ (-q))) (-1)));rw[hn _ h0,bG,lC,hc];refine⟨?_,sD (aS9 _ (fun t ht=>by simp at ht) (Sub.con [] _).1)⟩
  show 0+-1*(-q*f [])=_
  rw[bG8,gY,bH4,Rat.neg_neg]
 .rename_i hq;rw[hn _ (Rat.not_lt.1 hq)];exact⟨hc q,(Sub.con [] _).1⟩
theorem aAu{s:List UInt8}(h:s.take 4≠iL):pT [([(s,1)],1)]:=fun t ht f hf=>by
 rw[bDk] at ht;subst ht;rw[bDk] at hf;subst hf;exact h
theorem aL8(m:Mon):sL [(m,(1:Rat))]:=⟨List.pairwise_cons.2 ⟨fun _ h=>(by simp at h),List.Pairwise.nil⟩,fun t ht=>by rw[bDk] at ht;subst ht;exact show (1:Rat)≠0 by decide⟩
theorem pU(q:Rat):sL (fO q):=by
 unfold fO
 split
 .exact⟨List.Pairwise.nil,fun t ht=>by simp at ht⟩
 .rename_i h;exact⟨List.pairwise_cons.2 ⟨fun _ h=>(by simp at h),List.Pairwise.nil⟩,fun t ht=>by rw[bDk] at ht;subst ht;exact h⟩
theorem aEs(a:Pol):∀n:Nat,sL (dW a n)
 | 0=>aL8 []
 | n+1=>cE _
theorem pV:∀(t:Tr),sL (unP t)
 | .mk op arg neg l m name ks=>by
  rw[unP];unfold unN
  split
  .exact pU _
  .split
   .split
    .exact⟨List.Pairwise.nil,fun t ht=>by simp at ht⟩
    .split
     .exact cE _
     .split
      .split<;>exact aEs _ _
      .split
       .exact⟨List.Pairwise.nil,fun t ht=>by simp at ht⟩
       .split
        .exact cE _
        .split
         .exact cE _
         .split<;>exact cE _
   .exact aL8 _
end Go.Proofs.Y
/- Simplifying keeps the form of a polynomial; the formal derivative: plain mathematics. -/
namespace Go.Proofs.Y
open Go Go.Vc Go.Dig
def sM(p:Pol):Prop:=∀t∈p,wF t.1
theorem lF{l:Pol}(h:sM l):sM (aV l):=oV (P:=wF) h
theorem aEt(q:Rat):sM (fO q):=fun t ht=>by
 unfold fO at ht
 split at ht
 .simp at ht
 .rw[bDk] at ht;subst ht;exact uN
theorem uZ:sM []:=fun t ht=>by simp at ht
theorem aHg:sM [([],1)]:=fun t ht=>by rw[bDk] at ht;subst ht;exact uN
theorem tM(s:List UInt8):sM [([(s,1)],1)]:=fun t ht=>by rw[bDk] at ht;subst ht;exact aLk s
theorem tY(a:Pol):∀n:Nat,sM (dW a n)
 | 0=>aHg
 | n+1=>lF (aAf _ _)
theorem tN:∀t:Tr,sM (unP t):=by
 refine bN fun t ih=>?_
 obtain⟨op,arg,neg,l,m,name,ks⟩:=t;rw[unP];unfold unN
 split
 .exact aEt _
 split
 .match ks,ih with
  | [],_=>rw[kD];exact uZ
  | k::r,ih=>
   rw[kD];dsimp only;have h1:=ih k (aP (j:=0) rfl)
   split
   .exact lF (aAg _ uZ h1)
   split
   .split<;>exact tY _ _
   match r,ih with
   | [],_=>rw[kD];exact uZ
   | k'::r,ih=>
    rw[kD];dsimp only;have h2:=ih k' (aP (j:=1) rfl)
    split
    .exact lF (aAg _ h1 h2)
    split
    .exact lF (aAg _ h1 h2)
    split<;>exact lF (aAf _ _)
 .exact tM _
def Eqv(a b:Pol):Prop:=∀f:Mon->Rat,sm f a=sm f b
theorem Eqv.eq{a b:Pol}(ha:sL a)(hb:sL b)(h:Eqv a b):a=b:=aZa ha hb h
theorem eK(q:Rat)(f:Mon->Rat):sm f (fO q)=q*f []:=by
 unfold fO
 split
 .rename_i h;rw[h,bEz];rfl
 .show q*f []+0=_
  rw[bFs]
theorem sE{q:Rat}{p:Pol}(h:sM p)(f:Mon->Rat):sm f (tmL (fO q) p)=q*sm f p:=by
 rw[lB,eK]
 congr 1
 exact dO fun t ht=>by rw[aRy (h t ht)]
theorem vA{neg:Bool}{arg:Int}{l m name:List Nat}{ks:List Tr}:unP (.mk 1 arg neg l m name ks)=fO (aN neg l m):=by rw[unP,aTa]
theorem iF{neg:Bool}{arg:Int}{l m name:List Nat}{k:Tr}:unP (.mk 4 arg neg l m name [k])=aV (plL [] (unP k) (-1)):=by rw[unP,kD,kD,aTb]
theorem lV{neg:Bool}{arg:Int}{l m name:List Nat}{k k':Tr}:unP (.mk 5 arg neg l m name [k,k'])=aV (plL (unP k) (unP k') 1):=by rw[unP,kD,kD,kD,bAa]
theorem nM{neg:Bool}{arg:Int}{l m name:List Nat}{k k':Tr}:unP (.mk 6 arg neg l m name [k,k'])=aV (plL (unP k) (unP k') (-1)):=by rw[unP,kD,kD,kD,bAb]
theorem kJ{neg:Bool}{arg:Int}{l m name:List Nat}{k k':Tr}:unP (.mk 7 arg neg l m name [k,k'])=aV (tmL (unP k) (unP k')):=by rw[unP,kD,kD,kD,bAc]
theorem pW{neg:Bool}{arg:Int}{l m name:List Nat}{k:Tr}(h:0<=arg):unP (.mk 9 arg neg l m name [k])=dW (unP k) arg.natAbs:=by rw[unP,kD,kD,aZ9 h]
theorem pX(f:Mon->Rat)(p:Pol):sm f (aV (plL [] p (-1)))=-(sm f p):=by
 rw[bG,lC];show 0+-1*sm f p=_;rw[bG8,gY]
theorem nU(q:Rat):unP (mkL q)=fO q:=Eqv.eq (pV _) (pU q) fun f=>by rw[(bAd q f).1,eK]
theorem iG{t:Tr}(h:okG t){v:Rat}(e:bW t=some v):unP t=fO v:=by
 obtain⟨op,arg,neg,l,m,name,ks⟩:=t;by_cases h1:op=1
 .subst h1;rw[aAj rfl] at e;cases e;exact vA
 by_cases h4:op=4
 .subst h4;rw[okG] at h;obtain⟨k,rfl⟩:=aEm h.1.1 rfl;obtain⟨op0,arg0,neg0,l0,m0,name0,ks0⟩:=k;rw[aAk rfl] at e
  split at e
  .rename_i h0;subst h0;cases e;rw[iF,vA];refine Eqv.eq (cE _) (pU _) fun f=>?_
   rw[pX,eK,eK,bH4]
  .cases e
 .rw[aEj h1 h4] at e;cases e
theorem aEu{e a:Tr}(he:unP e=aV (plL [] (unP a) (-1)))(ha:okG a):unP (lS e a)=unP e:=by
 unfold lS;cases hl:bW a with
 | some v=>
  show unP (mkL (-v))=_
  rw[nU,he];refine Eqv.eq (pU _) (cE _) fun f=>?_
  rw[pX,iG ha hl,eK,eK,bH4]
 | none=>
  show unP (if lE a then xE a else e)=_
  split
  .rename_i hn;obtain⟨k,neg,l,m,name,arg,rfl,hk,-⟩:=gX ha hn;rw[hk,he,iF];refine Eqv.eq (pV _) (cE _) fun f=>?_
   rw[pX,pX,Rat.neg_neg]
  .rfl
theorem aEv{q:Rat}{p:Pol}(h:sM p)(f:Mon->Rat):sm f (tmL p (fO q))=q*sm f p:=by rw[yA,sE h]
theorem aEw{e a b:Tr}{op:Int}(ha:okG a)(hb:okG b)(h:(op=5/\unP e=aV (plL (unP a) (unP b) 1))\/(op=6/\unP e=aV (plL (unP a) (unP b) (-1)))\/(op=7/\unP e=aV (tmL (unP a) (unP b)))):unP (oX e op a b)=unP e:=by
 have hce:sL (unP e):=pV e;unfold oX;cases hf:oW op a b with
 | some q=>
  show unP (mkL q)=_
  unfold oW at hf;cases hx:bW a with
  | none=>rw[hx] at hf;cases hf
  | some x=>
   cases hy:bW b with
   | none=>rw[hx,hy] at hf;cases hf
   | some y=>
    rw[hx,hy] at hf;have hf:aAm op x y=some q:=hf;rw[nU];have e1:=iG ha hx;have e2:=iG hb hy;refine Eqv.eq (pU _) hce fun f=>?_
    rw[eK];unfold aAm at hf;rcases h with ⟨rfl,he⟩|⟨rfl,he⟩|⟨rfl,he⟩
    .rw[if_pos rfl] at hf;rw[he,bG,lC,e1,e2,eK,eK,<-lU hf,bHy,bEt]
    .rw[if_neg Ad,if_pos rfl] at hf;rw[he,bG,lC,e1,e2,eK,eK,<-lU hf,gY,bFq,bHy,bH4]
    .rw[if_neg Ad,if_neg Ad,if_pos rfl] at hf;rw[he,bG,e1,e2,sE (aEt y),eK,<-lU hf,bEq]
 | none=>
  rcases h with ⟨rfl,he⟩|⟨rfl,he⟩|⟨rfl,he⟩
  .show unP (if (5:Int)=5 then uU e a b else _)=_
   rw[if_pos rfl];unfold uU
   split
   .rename_i h0;refine Eqv.eq (pV _) hce fun f=>?_
    rw[he,bG,lC,iG ha h0,eK,bEz,bG8,bEt]
   split
   .rename_i h0;refine Eqv.eq (pV _) hce fun f=>?_
    rw[he,bG,lC,iG hb h0,eK,bEz,bFn,bFs]
   split
   .rename_i hn;obtain⟨k,neg,l,m,name,arg,rfl,hk,-⟩:=gX hb hn;rw[hk];unfold aF;rw[nM];refine Eqv.eq (cE _) hce fun f=>?_
    rw[he,bG,bG,lC,lC,iF,pX,gY,bEt]
   .rfl
  .show unP (if (6:Int)=5 then uU e a b else if (6:Int)=6 then wM e a b else _)=_
   rw[if_neg Ad,if_pos rfl];unfold wM
   split
   .rename_i h0;refine Eqv.eq (pV _) hce fun f=>?_
    rw[he,bG,lC,iG hb h0,eK,bEz,bFn,bFs]
   split
   .rename_i h0;have hn:unP (aF 4 0 [b])=aV (plL [] (unP b) (-1)):=by unfold aF;rw[iF]
    rw[aEu hn hb,hn];refine Eqv.eq (cE _) hce fun f=>?_
    rw[he,pX,bG,lC,iG ha h0,eK,bEz,bG8,gY]
   split
   .rename_i hn;obtain⟨k,neg,l,m,name,arg,rfl,hk,-⟩:=gX hb hn;rw[hk];unfold aF;rw[lV];refine Eqv.eq (cE _) hce fun f=>?_
    rw[he,bG,bG,lC,lC,iF,pX,gY,bEt,Rat.neg_neg]
   .rfl
  .show unP (if (7:Int)=5 then uU e a b else if (7:Int)=6 then wM e a b else if (7:Int)=7 then uV e a b else _)=_
   rw[if_neg Ad,if_neg Ad,if_pos rfl];unfold uV
   split
   .rename_i h0;rw[nU];refine Eqv.eq (pU _) hce fun f=>?_
    rw[he,bG,eK,bEz];rcases h0 with h0|h0
    .rw[iG ha h0,sE (tN b),bEz]
    .rw[iG hb h0,aEv (tN a),bEz]
   split
   .rename_i h0;refine Eqv.eq (pV _) hce fun f=>?_
    rw[he,bG,iG ha h0,sE (tN b),bEt]
   split
   .rename_i h0;refine Eqv.eq (pV _) hce fun f=>?_
    rw[he,bG,iG hb h0,aEv (tN a),bEt]
   split
   .rename_i h0;have hn:unP (aF 4 0 [b])=aV (plL [] (unP b) (-1)):=by unfold aF;rw[iF]
    rw[aEu hn hb,hn];refine Eqv.eq (cE _) hce fun f=>?_
    rw[he,pX,bG,iG ha h0,sE (tN b),gY]
   .rfl
theorem aCp(x:Rat)(f:Mon->Rat):∀n:Nat,sm f (dW (fO x) n)=x^n*f []
 | 0=>by
  show 1*f []+0=_
  rw[bFs,bF2]
 | n+1=>by
  show sm f (aV (tmL (dW (fO x) n) (fO x)))=_
  rw[bG,aEv (tY _ _),aCp x f n,bGb,<-bEq,bFp x]
theorem aW1{e a:Tr}{arg:Int}(ha:okG a)(h0:0<=arg)(he:unP e=dW (unP a) arg.natAbs):unP (mX e arg a)=unP e:=by
 unfold mX;cases hp:tJ arg a with
 | some q=>
  show unP (mkL q)=_
  unfold tJ at hp;cases hx:bW a with
  | none=>rw[hx] at hp;cases hp
  | some x=>
   rw[hx] at hp;have hp:(if arg<0/\x=0 then none else iK (kR x arg))=some q:=hp
   rw[if_neg Aa] at hp;have hq:=lU hp;unfold kR at hq;rw[if_neg Aa] at hq;rw[nU,he,iG ha hx];refine Eqv.eq (pU _) (aEs _ _) fun f=>?_
   rw[eK,aCp,<-hq,show arg.natAbs=arg.toNat by omega]
 | none=>
  show unP (if arg=0 then mkL 1 else if arg=1 then a else e)=_
  split
  .rename_i h;rw[nU,he,h];rfl
  split
  .rename_i h;rw[he,h];refine Eqv.eq (pV _) (aEs _ _) fun f=>?_
   show _=sm f (aV (tmL [([],1)] (unP a)))
   rw[bG,show ([([],1)]:Pol)=fO 1 from rfl,sE (tN a),bEt]
  .rfl
theorem bAe:∀(t:Tr),okG t->aZ t->unP (eA t)=unP t:=by
 refine bN fun t ih=>?_
 intro hok hp;obtain⟨op,arg,neg,l,m,name,ks⟩:=t;rw[okG] at hok;rw[aZ] at hp;obtain⟨hnb,hks⟩:=hok;obtain⟨hop,hpk⟩:=hp;have hn1:=hnb.1;rw[eA];by_cases h0:op=1\/op=2\/op=3
 .have:ks=[]:=by
   refine bDn ?_;unfold aR at hn1;rw[if_pos h0] at hn1;omega
  subst this;rw[cK];rfl
 by_cases hone:op=4\/op=9
 .obtain⟨k,rfl⟩:=aEm hn1 (by unfold aR;rcases hone with rfl|rfl<;>rfl);rw[cA] at hks;rw[bK] at hpk;have hs:=ih k (aP (j:=0) rfl) hks.1 hpk.1;have hg:=rM hks.1;rw[cK,cK];rcases hone with rfl|rfl
  .have e4:∀x:Tr,rL 4 arg x [eA k]=lS x (eA k):=fun x=>by show (if (4:Int)=4 then lS x (eA k) else if (4:Int)=9 then mX x arg (eA k) else x)=_;rw[if_pos rfl]
   rw[e4,aEu (by rw[iF]) hg,iF,iF,hs]
  .have e9:∀x:Tr,rL 9 arg x [eA k]=mX x arg (eA k):=fun x=>by show (if (9:Int)=4 then lS x (eA k) else if (9:Int)=9 then mX x arg (eA k) else x)=_;rw[if_neg Ad,if_pos rfl]
   have ha:0<=arg:=Aa;rw[e9,aW1 hg ha (by rw[pW ha]),pW ha,pW ha,hs]
 .obtain⟨k,k',rfl⟩:=aJt hn1 (by unfold aR;rw[if_neg Aa,if_neg Aa,if_pos Aa]);rw[cA,cA] at hks;rw[bK,bK] at hpk;have hs:=ih k (aP (j:=0) rfl) hks.1 hpk.1;have hs':=ih k' (aP (j:=1) rfl) hks.2.1 hpk.2.1;have hg:=rM hks.1;have hg':=rM hks.2.1;rw[cK,cK,cK];have h58:op=5\/op=6\/op=7\/op=8:=Aa;show unP (if op=5\/op=6\/op=7\/op=8 then oX _ op _ _ else _)=_
  rw[if_pos h58];have h57:op=5\/op=6\/op=7:=Aa;rcases h57 with rfl|rfl|rfl
  .rw[aEw hg hg' (.inl ⟨rfl,by rw[lV]⟩),lV,lV,hs,hs']
  .rw[aEw hg hg' (.inr (.inl ⟨rfl,by rw[nM]⟩)),nM,nM,hs,hs']
  .rw[aEw hg hg' (.inr (.inr ⟨rfl,by rw[kJ]⟩)),kJ,kJ,hs,hs']
end Go.Proofs.Y
/- The formal derivative of a polynomial form: plain mathematics. -/
namespace Go.Proofs.Y
open Go Go.Vc Go.Dig
theorem sQ{k k':Tr}(a:Pol)(h1:aK k=aK k')(h2:dB k.op=dB k'.op):pR k a=pR k' a:=by unfold pR;rw[h1,h2]
theorem aL9{t u:Tr}(e:key t=key u):dB t.op=dB u.op:=by
 obtain⟨op,arg,neg,l,m,name,ks⟩:=t;obtain⟨op',arg',neg',l',m',name',ks'⟩:=u;rw[key,key,Kt.mk.injEq] at e;rw[show (Tr.mk op arg neg l m name ks).op=op from rfl,e.1];rfl
theorem aAv:∀(t u:Tr),key t=key u->unP t=unP u:=by
 refine bN fun t ih=>?_
 intro u e;have et:=sC e;obtain⟨op,arg,neg,l,m,name,ks⟩:=t;obtain⟨op',arg',neg',l',m',name',ks'⟩:=u;rw[key,key,Kt.mk.injEq] at e;obtain⟨rfl,rfl,e3,rfl,e5⟩:=e;rw[unP,unP,e3];unfold unN;rw[et];by_cases h1:op=1
 .rw[if_pos h1,if_pos h1]
 rw[if_neg h1,if_neg h1];by_cases h2:4<=op/\op<=9
 .rw[if_pos h2,if_pos h2]
  match ks,ih,e5 with
  | [],_,e5=>
   have:ks'=[]:=pA e5 |>.symm▸rfl
   rw[this]
  | k::r,ih,e5=>
   obtain⟨k',r',rfl,a1,a2⟩:=mG e5;have g1:=ih k (aP (j:=0) rfl) k' a1;rw[kD,kD,g1];dsimp only;by_cases h4:op=4
   .rw[if_pos h4,if_pos h4]
   rw[if_neg h4,if_neg h4];by_cases h9:op=9
   .rw[if_pos h9,if_pos h9,sQ _ (sC a1) (aL9 a1)]
   rw[if_neg h9,if_neg h9]
   match r,ih,a2 with
   | [],_,a2=>
    have:r'=[]:=pA a2 |>.symm▸rfl
    rw[this]
   | j::q,ih,a2=>
    obtain⟨j',q',rfl,b1,b2⟩:=mG a2;have g2:=ih j (aP (j:=1) rfl) j' b1;rw[kD,kD,g2];dsimp only;rw[sQ _ (sC b1) (aL9 b1)]
 .rw[if_neg h2,if_neg h2]
section
variable (x:List UInt8)
def dcM(m:Mon):Mon:=aV (m.map fun t=>(t.1,if t.1=x then t.2-1 else t.2))
theorem aHh{m:Mon}(h:lR m)(s:List UInt8):cf (dcM x m) s=if s=x then cf m s-1 else cf m s:=by
 unfold dcM;rw[xW,aRu (fun s n=>if s=x then n-1 else n) (fun s=>by split<;>rfl) h]
theorem bAf{m:Mon}(h:lR m)(hp:Pln m):Pln (dcM x m):=fun t ht hs=>by
 have h1:=pM (cE _).1 ht;have h2:cf (dcM x m) t.1=0:=by
  rw[aHh x h,rN hp hs]
  split<;>rfl
 exact (cE _).2 t ht (h1.symm.trans h2)
def dn(f:Mon->Rat)(m:Mon):Rat:=((cf m x:Nat):Rat)*f (dcM x m)
theorem aX4{a b:Mon}(ha:lR a)(pa:Pln a)(pb:Pln b)(h:cf a x≠0):dcM x (jn a b)=jn (dcM x a) b:=
 kI (cE _) (mQ _ _) fun s=>by
  rw[aHh x (mQ a b).1,aEq pa pb,aEq (bAf x ha pa) pb,aHh x ha]
  split
  .rename_i e;subst e;omega
  .rfl
theorem bCa{a b:Mon}(ha:lR a)(hb:lR b)(pa:Pln a)(pb:Pln b)(f:Mon->Rat):dn x f (jn a b)=dn x (fun m=>f (jn m b)) a+dn x (fun m=>f (jn a m)) b:=by
 unfold dn;rw[aEq pa pb];have e1:((cf a x:Nat):Rat)*f (dcM x (jn a b))=((cf a x:Nat):Rat)*f (jn (dcM x a) b):=by
  by_cases h:cf a x=0
  .rw[h];show ((0:Nat):Rat)*_=((0:Nat):Rat)*_;rw[show ((0:Nat):Rat)=0 from rfl,bEz,bEz]
  .rw[aX4 x ha pa pb h]
 have e2:((cf b x:Nat):Rat)*f (dcM x (jn a b))=((cf b x:Nat):Rat)*f (jn a (dcM x b)):=by
  by_cases h:cf b x=0
  .rw[h];show ((0:Nat):Rat)*_=((0:Nat):Rat)*_;rw[show ((0:Nat):Rat)=0 from rfl,bEz,bEz]
  .rw[aEb a b,aX4 x hb pb pa h,aEb]
 rw[Rat.natCast_add,bHy,e1,e2]
def bCb(p:Pol):Prop:=∀t∈p,lR t.1
theorem aW2{p:Pol}(h:sM p):bCb p:=fun t ht=>(h t ht).1.1
theorem aX5{a b:Pol}(ha:sM a)(hb:sM b)(pa:pT a)(pb:pT b)(f:Mon->Rat):sm (dn x f) (tmL a b)=sm (dn x fun m=>sm (fun n=>f (jn m n)) b) a+sm (fun m=>sm (dn x fun n=>f (jn m n)) b) a:=by
 have e:sm (fun m=>sm (fun n=>dn x f (jn m n)) b) a=sm (fun m=>sm (fun n=>dn x (fun u=>f (jn u n)) m) b+sm (dn x fun n=>f (jn m n)) b) a:=by
  refine dO fun m hm=>?_
  rw[<-aD9];exact dO fun n hn=>bCa x (ha m hm).1.1 (hb n hn).1.1 (pa m hm) (pb n hn) f
 rw[lB,e,aD9]
 congr 1
 refine dO fun m hm=>?_
 unfold dn;rw[zV]
def Der(a' a:Pol):Prop:=sM a/\pT a/\∀f,sm f a'=sm (dn x f) a
theorem aTc{a a':Pol}(h:Der x a' a):∀(n:Nat),sM (dW a n)/\pT (dW a n)/\∀f,sm (dn x f) (dW a n)=((n:Nat):Rat)*sm f (tmL (dW a (n-1)) a')
 | 0=>⟨aHg,fun t ht f hf=>by rw[show dW a 0=[([],1)] from rfl,bDk] at ht;subst ht;simp at hf,fun f=>by
   show 1*(((cf ([]:Mon) x:Nat):Rat)*f (dcM x []))+0=((0:Nat):Rat)*_
   rw[kB,show ((0:Nat):Rat)=0 from rfl,bEz,bEz,bFn,bFs]⟩
 | n+1=>by
  obtain⟨h1,h2,h3⟩:=aTc h n;refine⟨lF (aAf _ _),sD (aS8 h2 h.2.1),fun f=>?_⟩
  show sm (dn x f) (aV (tmL (dW a n) a))=_*sm f (tmL (dW a n) a')
  rw[bG,aX5 x h1 h.1 h2 h.2.1,h3];have e2:sm (fun m=>sm (dn x fun n=>f (jn m n)) a) (dW a n)=sm f (tmL (dW a n) a'):=by
   rw[lB];exact dO fun m _=>(h.2.2 _).symm
  rw[e2,<-lB];have e3:((n:Nat):Rat)*sm f (tmL (tmL (dW a (n-1)) a') a)=((n:Nat):Rat)*sm f (tmL (dW a n) a'):=by
   cases n with
   | zero=>rw[show ((0:Nat):Rat)=0 from rfl,bEz,bEz]
   | succ n=>
    congr 1
    show sm f (tmL (tmL (dW a n) a') a)=sm f (tmL (aV (tmL (dW a n) a)) a')
    rw[aAh,aSn (fun g=>yA a' a g),<-aAh,yB fun g=>(bG g (tmL (dW a n) a)).symm]
  rw[e3,Rat.natCast_add,bHy,show ((1:Nat):Rat)=1 from rfl,bEt]
end
end Go.Proofs.Y
/- The derivative of a polynomial has the formal derivative for its form: plain mathematics. -/
namespace Go.Proofs.Y
open Go Go.Vc Go.Dig
theorem nN(q:Rat):aZ (mkL q):=by
 unfold mkL
 split
 .unfold aF numQ;rw[aZ,bK,bK,aZ,bK];exact⟨.inl ⟨Ad,Ad⟩,⟨.inl ⟨Ad,Ad⟩,trivial⟩,trivial⟩
 .unfold numQ;rw[aZ,bK];exact⟨.inl ⟨Ad,Ad⟩,trivial⟩
theorem aEx{op arg:Int}{a:Tr}(h:(1<=op/\op<=7/\op≠3)\/(op=9/\0<=arg))(ha:aZ a):aZ (aF op arg [a]):=by
 unfold aF;rw[aZ,bK,bK];exact⟨h,ha,trivial⟩
theorem lW{op arg:Int}{a b:Tr}(h:(1<=op/\op<=7/\op≠3)\/(op=9/\0<=arg))(ha:aZ a)(hb:aZ b):aZ (aF op arg [a,b]):=by
 unfold aF;rw[aZ,bK,bK,bK];exact⟨h,ha,hb,trivial⟩
section
variable (x:List UInt8)
theorem Der.zero{a:Pol}(h:sM a)(hp:pT a)(h0:∀t∈a,cf t.1 x=0):Der x (fO 0) a:=⟨h,hp,fun f=>by
  rw[eK,bEz];refine (aEa a).symm.trans (dO fun t ht=>?_)
  show (0:Rat)=((cf t.1 x:Nat):Rat)*_
  rw[h0 t ht,show ((0:Nat):Rat)=0 from rfl,bEz]⟩
theorem Der.add{a a' b b':Pol}(k:Rat)(h1:Der x a' a)(h2:Der x b' b):Der x (aV (plL a' b' k)) (aV (plL a b k)):=
 ⟨lF (aAg k h1.1 h2.1),sD (aS9 k h1.2.1 h2.2.1),fun f=>by rw[bG,bG,lC,lC,h1.2.2,h2.2.2]⟩
theorem Der.mul{a a' b b':Pol}(h1:Der x a' a)(h2:Der x b' b):Der x (aV (plL (aV (tmL a' b)) (aV (tmL a b')) 1)) (aV (tmL a b)):=
 ⟨lF (aAf _ _),sD (aS8 h1.2.1 h2.2.1),fun f=>by
   rw[bG,bG,lC,bG,bG,aX5 x h1.1 h2.1 h1.2.1 h2.2.1,bEt,lB,lB,h1.2.2]
   congr 1
   exact dO fun m _=>h2.2.2 _⟩
theorem Der.pow{a a':Pol}(h:Der x a' a)(n:Nat):Der x (aV (tmL (aV (tmL (fO (n:Rat)) (dW a (n-1)))) a')) (dW a n):=by
 obtain⟨h1,h2,h3⟩:=aTc x h n;refine⟨h1,h2,fun f=>?_⟩
 rw[bG,yB (fun g=>bG g _),aAh,h3]
 rw[lB,eK]
 congr 1
 refine dO fun m hm=>?_
 rw[aRy ?_];unfold tmL at hm;obtain⟨u,hu,hm⟩:=List.mem_flatMap.1 hm;obtain⟨w,hw,rfl⟩:=List.mem_map.1 hm;exact aRx _ _
end
theorem aTd{a b:List Nat}(ha:∀y∈a,y<256)(hb:∀y∈b,y<256)(h:b8 a=b8 b):a=b:=by rw[<-aAt ha,<-aAt hb,h]
theorem aTe{nm:List Nat}(hnm:fE nm):∀t:Tr,okG t->aZ t->Der (b8 nm) (unP (eS id nm t)) (unP t)/\aZ (eS id nm t):=by
 refine bN fun t ih=>?_
 intro hok hp;obtain⟨op,arg,neg,l,m,name,ks⟩:=t;have hp0:=hp;rw[okG] at hok;rw[aZ] at hp;obtain⟨hnb,hks⟩:=hok;obtain⟨hop,hpk⟩:=hp;have hn1:=hnb.1;have hnb8:=aCm hnm;rw[eS];by_cases h1:op=1
 .subst h1;rw[if_pos (.inl rfl),nU,vA];refine⟨Der.zero _ (aEt _) (Sub.con [] _).1 fun t ht=>?_,nN _⟩
  unfold fO at ht
  split at ht
  .simp at ht
  .rw[bDk] at ht;subst ht;rfl
 rw[if_neg Aa];by_cases h2:op=2
 .subst h2;have hnm2:=hnb.2.2.2.1;rw[if_pos rfl] at hnm2;obtain rfl:ks=[]:=bDn (by rw[show aR 2=0 from rfl] at hn1;omega);have htx:aK (.mk 2 arg neg l m name [])=name:=by rw[aK];rfl
  have hun:unP (.mk 2 arg neg l m name [])=[([(b8 name,1)],1)]:=by rw[unP,aEr Ad Ad,htx]
  have hb:=aCm hnm2;obtain⟨c,r,e,hc,-⟩:=aHc hnm2;have hne:=aWz e (fun x=>by have:=kG.1 hc;omega) hb
  rw[if_pos rfl,hun];by_cases hx:name=nm
  .subst hx;rw[if_pos rfl,nU];refine⟨⟨tM _,aAu hne,fun f=>?_⟩,nN _⟩
   rw[eK];show 1*f []=1*(((cf [(b8 name,1)] (b8 name):Nat):Rat)*f (dcM (b8 name) [(b8 name,1)]))+0;have e1:cf [(b8 name,1)] (b8 name)=1:=by rw[aO,if_pos rfl];rfl
   have e2:dcM (b8 name) [(b8 name,1)]=[]:=by
    refine kI (cE _) ⟨List.Pairwise.nil,fun t ht=>by simp at ht⟩ fun s=>?_
    rw[aHh _ (List.pairwise_cons.2 ⟨fun _ h=>(by simp at h),List.Pairwise.nil⟩),kB,aO,kB]
    by_cases e:s=b8 name
    .subst e;rw[if_pos rfl,if_pos rfl];rfl
    .rw[if_neg e,if_neg (fun x=>e x.symm)]
   rw[e1,e2,show ((1:Nat):Rat)=1 from rfl,bEt,bEt,bFs]
  .rw[if_neg hx,nU];refine⟨Der.zero _ (tM _) (aAu hne) fun t ht=>?_,nN _⟩
   rw[bDk] at ht;subst ht;show cf [(b8 name,1)] (b8 nm)=0;rw[aO,if_neg fun e=>hx (aTd hb hnb8 e)];rfl
 rw[if_neg h2];by_cases hone:op=4\/op=9
 .obtain⟨k,rfl⟩:=aEm hn1 (by unfold aR;rcases hone with rfl|rfl<;>rfl);rw[cA] at hks;rw[bK] at hpk;obtain⟨hd,hpd⟩:=ih k (aP (j:=0) rfl) hks.1 hpk.1;rw[dV,dV];rcases hone with rfl|rfl
  .have e4:∀x:Tr,sP x 4 arg [k] [eS id nm k]=aF 4 0 [eS id nm k]:=fun x=>by
    show (if (4:Int)=4 then aF 4 0 [eS id nm k] else if (4:Int)=9 then aBi x arg k (eS id nm k) else if (4:Int)=10 then aS0 x arg (eS id nm k) else aG8 x arg k (eS id nm k))=_
    rw[if_pos rfl]
   rw[e4,iF];refine⟨?_,aEx (.inl ⟨Ad,Ad⟩) hpd⟩;unfold aF;rw[iF];exact Der.add _ _ ⟨uZ,fun t ht=>by simp at ht,fun f=>rfl⟩ hd
  .have ha:0<=arg:=Aa;have e9:∀x:Tr,sP x 9 arg [k] [eS id nm k]=aBi x arg k (eS id nm k):=fun x=>by
    show (if (9:Int)=4 then aF 4 0 [eS id nm k] else if (9:Int)=9 then aBi x arg k (eS id nm k) else if (9:Int)=10 then aS0 x arg (eS id nm k) else aG8 x arg k (eS id nm k))=_
    rw[if_neg Ad,if_pos rfl]
   rw[e9,pW ha];unfold aBi
   split
   .rename_i h0;subst h0;rw[nU];refine⟨?_,nN _⟩;have:=Der.pow _ hd 0;refine⟨this.1,this.2.1,fun f=>?_⟩
    rw[show (0:Int).natAbs=0 from rfl,<-this.2.2,bG,yB (fun g=>bG g _),show ((0:Nat):Rat)=0 from rfl,eK,bEz]
    rfl
   .rename_i h0;rw[if_pos Aa];have hp1:aZ (aF 9 (arg-1) [k]):=aEx (.inr ⟨rfl,Aa⟩) hpk.1;refine⟨?_,lW (.inl ⟨Ad,Ad⟩) (lW (.inl ⟨Ad,Ad⟩) (nN _) hp1) hpd⟩;unfold aF;rw[kJ,kJ,pW Aa,nU];have:=Der.pow _ hd arg.natAbs;rw[show (arg-1).natAbs=arg.natAbs-1 by omega,show ((arg:Int):Rat)=((arg.natAbs:Nat):Rat) by rw[<-Rat.intCast_natCast,Int.natAbs_of_nonneg ha]]
    exact this
 .obtain⟨k,k',rfl⟩:=aJt hn1 (by unfold aR;rw[if_neg Aa,if_neg Aa,if_pos Aa]);rw[cA,cA] at hks;rw[bK,bK] at hpk;obtain⟨hd,hpd⟩:=ih k (aP (j:=0) rfl) hks.1 hpk.1;obtain⟨hd',hpd'⟩:=ih k' (aP (j:=1) rfl) hks.2.1 hpk.2.1;rw[dV,dV,dV];show Der _ (unP (aOi op k k' (eS id nm k) (eS id nm k'))) _/\aZ (aOi op k k' (eS id nm k) (eS id nm k'));unfold aOi;have h57:op=5\/op=6\/op=7:=Aa;rcases h57 with rfl|rfl|rfl
  .rw[if_pos (.inl rfl),lV];refine⟨?_,lW (.inl ⟨Ad,Ad⟩) hpd hpd'⟩;unfold aF;rw[lV];exact Der.add _ _ hd hd'
  .rw[if_pos (.inr rfl),nM];refine⟨?_,lW (.inl ⟨Ad,Ad⟩) hpd hpd'⟩;unfold aF;rw[nM];exact Der.add _ _ hd hd'
  .rw[if_neg Ad,if_pos rfl,kJ];refine⟨?_,lW (.inl ⟨Ad,Ad⟩) (lW (.inl ⟨Ad,Ad⟩) hpd hpk.2.1) (lW (.inl ⟨Ad,Ad⟩) hpk.1 hpd')⟩;unfold aF;rw[lV,kJ,kJ];exact Der.mul _ hd hd'
end Go.Proofs.Y
/- Congruence: what it tells; the ring; an equivalence: plain mathematics. -/
namespace Go.Proofs.Y
open Go Go.Vc Go.Dig
theorem pB{l:Pol}{n:Nat}(h:cV l=.error n):n≠0:=by
 unfold cV at h
 split at h
 .cases h;decide
 .split at h
  .cases h;decide
  .cases h
theorem aAw{s:List UInt8}{n:Nat}(h:gR s=.error n):n≠0:=by
 unfold gR at h
 split at h
 .cases h;decide
 .cases h
theorem aCq{b:Tr}{a:Pol}{n:Nat}(h:jL b a=.error n):n≠0:=by
 unfold jL at h
 split at h
 .cases h
 .split at h
  .cases h;decide
  .exact aAw h
theorem aEy{a:Pol}:∀{k:Nat} {n:Nat},mW a k=.error n->n≠0
 | 0,n,h=>by cases h
 | k+1,n,h=>by
  unfold mW at h;cases ho:mW a k with
  | error e=>
   rw[ho] at h;cases h;exact aEy ho
  | ok o=>
   rw[ho] at h;exact pB h
theorem aTf:∀(t:Tr),okG t->∀{n:Nat},bU t=.error n->n≠0:=by
 refine bN fun t ih=>?_
 intro hok n hp;obtain⟨op,arg,neg,l,m,name,ks⟩:=t;rw[okG] at hok;obtain⟨hnb,hks⟩:=hok;have hn1:=hnb.1;rw[bU] at hp;unfold iI at hp
 split at hp
 .cases hp
 split at hp
 .rename_i h1 h2;by_cases hone:op=4\/op=9
  .obtain⟨k,rfl⟩:=aEm hn1 (by unfold aR;rcases hone with rfl|rfl<;>rfl);rw[cA] at hks;rw[eJ,eJ] at hp;cases ha:bU k with
   | error e=>
    rw[ha] at hp;cases hp;exact ih k (aP (j:=0) rfl) hks.1 ha
   | ok a=>
    rw[ha] at hp;dsimp only at hp
    split at hp
    .exact pB hp
    .split at hp
     .split at hp
      .cases hc:jL k a with
       | error e=>
        rw[hc] at hp;cases hp;exact aCq hc
       | ok c=>
        rw[hc] at hp;exact aEy hp
      .exact aEy hp
     .omega
  .obtain⟨k,k',rfl⟩:=aJt hn1 (by unfold aR;rw[if_neg Aa,if_neg Aa,if_pos Aa]);rw[cA,cA] at hks;rw[eJ,eJ,eJ] at hp;cases ha:bU k with
   | error e=>
    rw[ha] at hp;cases hp;exact ih k (aP (j:=0) rfl) hks.1 ha
   | ok a=>
    rw[ha] at hp;dsimp only at hp;rw[if_neg Aa,if_neg Aa] at hp;cases hb:bU k' with
    | error e=>
     rw[hb] at hp;cases hp;exact ih k' (aP (j:=1) rfl) hks.2.1 hb
    | ok b=>
     rw[hb] at hp;dsimp only at hp
     split at hp
     .exact pB hp
     .split at hp
      .exact pB hp
      .split at hp
       .exact pB hp
       .cases hc:jL k' b with
        | error e=>
         rw[hc] at hp;cases hp;exact aCq hc
        | ok c=>
         rw[hc] at hp;exact pB hp
 .exact aAw hp
end Go.Proofs.Y
/- Products as the program forms them: exponents by atom, in any order; names cancelled; sorted: plain mathematics. -/
namespace Go.Dig
abbrev pY (l:Mon):Prop:=(l.map (·.1)).Nodup
theorem pC{t:Fac}{l:Mon}:pY (t::l)↔(∀u∈l,u.1≠t.1)/\pY l:=by
 unfold pY;rw[bEe,List.nodup_cons];refine and_congr ⟨fun h u hu e=>h (by rw[<-e];exact bDy hu),fun h hm=>?_⟩ Iff.rfl
 obtain⟨u,hu,e⟩:=List.mem_map.1 hm;exact h u hu e
theorem aJy{l:Mon}(h:pY l){i:Nat}{t:Fac}(ht:l[i]?=some t):cf l t.1=t.2:=by
 induction l generalizing i with
 | nil=>simp at ht
 | cons u l ih=>
  obtain⟨h1,h2⟩:=pC.1 h;cases i with
  | zero=>
   simp at ht;subst ht;rw[aO,if_pos rfl,zU h1,bEh]
  | succ i=>
   have ht':l[i]?=some t:=by simpa using ht
   rw[aO,if_neg (fun e=>h1 t (bDc ht') e.symm)]
   exact ih h2 ht'
theorem aTg{l:Mon}{x:List UInt8}(h:x∉l.map (·.1)):cf l x=0:=zU fun t ht e=>h (by rw[<-e];exact bDy ht)
def etF(l:Mon)(x:List UInt8):Mon:=if x∈l.map (·.1) then l else l++[(x,0)]
theorem aW3{l:Mon}(h:pY l)(x:List UInt8):pY (etF l x):=by
 unfold etF
 split
 .exact h
 .rename_i hx;unfold pY;rw[bDl,bGt];exact⟨h,by simp,fun a ha b hb=>by simp at hb;subst hb;exact fun e=>hx (by rw[<-e];exact ha)⟩
theorem bCc(l:Mon)(x s:List UInt8):cf (etF l x) s=cf l s:=by
 unfold etF
 split
 .rfl
 .rw[jK,aO,kB];show _+(if x=s then 0+0 else 0)=_
  split<;>rfl
theorem aW4{l:Mon}{i:Nat}{x:List UInt8}{v:Nat}(w:Nat)(h:pY l)(hi:l[i]?=some (x,v)):pY (l.set i (x,w))/\∀s,cf (l.set i (x,w)) s=if x=s then w else cf l s:=by
 induction l generalizing i with
 | nil=>simp at hi
 | cons u l ih=>
  obtain⟨h1,h2⟩:=pC.1 h;cases i with
  | zero=>
   simp at hi;subst hi;refine⟨pC.2 ⟨h1,h2⟩,fun s=>?_⟩
   rw[List.set_cons_zero,aO,aO];show (if x=s then _ else _)=if x=s then _ else (if x=s then _ else _)
   by_cases e:x=s
   .subst e;rw[if_pos rfl,if_pos rfl,zU h1,bEh]
   .rw[if_neg e,if_neg e,if_neg e]
  | succ i=>
   have hi':l[i]?=some (x,v):=by simpa using hi
   obtain⟨g1,g2⟩:=ih h2 hi';have hux:u.1≠x:=fun e=>h1 (x,v) (bDc hi') e.symm
   refine⟨pC.2 ⟨fun t ht=>?_,g1⟩,fun s=>?_⟩
   .rcases bHe ht with ht|rfl
    .exact h1 t ht
    .exact hux.symm
   .rw[bFj,aO,g2,aO];by_cases e:u.1=s
    .rw[if_pos e,if_pos e,if_neg (fun y=>hux (by rw[e,y])),if_neg (fun y=>hux (by rw[e,y]))]
    .rw[if_neg e,if_neg e]
theorem bAg{l:Mon}{i:Nat}{x:List UInt8}(n:Nat)(h:pY l)(hi:(etF l x)[i]?=some (x,cf l x)):pY ((etF l x).set i (x,cf l x+n))/\∀s,cf ((etF l x).set i (x,cf l x+n)) s=cf l s+(if x=s then n else 0):=by
 obtain⟨g1,g2⟩:=aW4 (cf l x+n) (aW3 h x) hi;refine⟨g1,fun s=>?_⟩
 rw[g2,bCc];by_cases e:x=s
 .subst e;rw[if_pos rfl,if_pos rfl]
 .rw[if_neg e,if_neg e,bEh]
theorem bAh{P:List UInt8->Prop}{l:Mon}{x:List UInt8}{i v:Nat}(hl:∀t∈l,P t.1)(hx:P x):∀t∈(etF l x).set i (x,v),P t.1:=fun t ht=>by
 rcases bHe ht with ht|rfl
 .unfold etF at ht
  split at ht
  .exact hl t ht
  .rcases bDf.1 ht with ht|ht
   .exact hl t ht
   .rw[bDk] at ht;subst ht;exact hx
 .exact hx
theorem bAi(l:Mon)(x:List UInt8):(etF l x).length<=l.length+1:=by unfold etF;split<;>simp
theorem aW5{q:Mon}(g:List UInt8->Nat->Nat)(hg:∀s,g s 0=0)(h:pY q)(s:List UInt8):cf (q.map fun t=>(t.1,g t.1 t.2)) s=g s (cf q s):=by
 induction q with
 | nil=>exact (hg s).symm
 | cons t q ih=>
  obtain⟨h1,h2⟩:=pC.1 h;rw[bEe,aO,aO,ih h2]
  split
  .rename_i e;subst e;rw[zU h1,hg];rfl
  .rfl
def cnF(l:Mon)(t:Fac):Nat:=t.2-min t.2 (rv l t.1)
def cnL(l d:Mon):Mon:=(d.map fun t=>(t.1,cnF l t)).filter fun t=>!decide (t.2=0)
theorem aHi(l d:Mon)(t:Fac):cnL l (d++[t])=cnL l d++(if cnF l t=0 then [] else [(t.1,cnF l t)]):=by
 unfold cnL;rw[bDl,bF6]
 congr 1
 by_cases e:cnF l t=0
 .rw[if_pos e];simp[e]
 .rw[if_neg e];simp[e]
theorem aW6(l d:Mon):(cnL l d).length<=d.length:=by
 unfold cnL;exact bDv (bG9 ..) Ao
theorem bCd{l m:Mon}(h:∀s,cf l s=cf m s)(s:List UInt8):rv l s=rv m s:=by
 unfold rv;cases inv s with
 | none=>rfl
 | some u=>exact h u
theorem aW7{a b l out:Mon}(hk:pY l)(hc:∀s,cf l s=cf (a++b) s)(hp:out.Perm (cnL l l))(hs:out.Pairwise fun s t=>¬t.1<s.1):out=jn a b:=by
 have hkey:pY out:=by
  unfold pY;refine (hp.map _).nodup_iff.2 ?_;unfold cnL;refine ((List.filter_sublist (l:=l.map fun t=>(t.1,cnF l t))).map (·.1)).nodup ?_
  rw[bGx];exact hk
 have hne:out.Pairwise fun s t=>s.1≠t.1:=List.pairwise_map.1 hkey
 have hsr:lR out:=(hs.and hne).imp fun {s t} hst=>by
  rcases pN s.1 t.1 with h|h|h
  .exact h
  .exact absurd h hst.2
  .exact absurd h hst.1
 refine kI ⟨hsr,fun t ht=>?_⟩ (mQ a b) fun s=>?_
 .have:=(List.mem_filter.1 (hp.mem_iff.1 ht)).2
  simpa using this
 .rw[aLl hp];unfold cnL;rw[oU];have e:=aW5 (fun s n=>n-min n (rv l s)) (fun s=>Nat.zero_sub _) hk s
  rw[show (l.map fun t=>(t.1,cnF l t))=l.map fun t=>(t.1,t.2-min t.2 (rv l t.1)) from rfl,e,rF,hc,jK,bCd hc]
theorem bAj(a b:Mon):(jn a b).length<=a.length+b.length:=by
 have h1:∀(k:List UInt8) (v:Nat) (q:Mon),(iJ k v q).length<=q.length+1:=by
  intro k v q
  induction q with
  | nil=>simp[iJ]
  | cons t q ih=>
   obtain⟨n,d⟩:=t;unfold iJ
   split
   .simp
   .split
    .simp
    .simp only[bDa];omega
 have h2:∀q:Mon,(kZ q).length<=q.length:=by
  intro q
  induction q with
  | nil=>simp[kZ]
  | cons t q ih=>
   show (iJ t.1 t.2 (kZ q)).length<=_
   have:=h1 t.1 t.2 (kZ q);rw[bDa];omega
 unfold jn aV;refine bDv (bG9 ..) (bDv (h2 _) ?_);rw[bDt];refine bDv (h2 _) ?_;rw[bC6];exact bDx _
theorem aMa{P:List UInt8->Prop}{a b:Mon}(ha:∀t∈a,P t.1)(hb:∀t∈b,P t.1):∀t∈jn a b,P t.1:=by
 have h1:∀(k:List UInt8) (v:Nat) (q:Mon),P k->(∀t∈q,P t.1)->∀t∈iJ k v q,P t.1:=by
  intro k v q hk
  induction q with
  | nil=>intro _ t ht;unfold iJ at ht;rw[bDk] at ht;subst ht;exact hk
  | cons n q ih=>
   intro hq t ht;obtain⟨n,d⟩:=n;unfold iJ at ht
   split at ht
   .rcases bDp.1 ht with rfl|ht
    .exact hk
    .exact hq t ht
   .split at ht
    .rcases bDp.1 ht with rfl|ht
     .exact hq (n,d) (bDe ..)
     .exact hq t (bDh _ ht)
    .rcases bDp.1 ht with rfl|ht
     .exact hq (n,d) (bDe ..)
     .exact ih (fun t ht=>hq t (bDh _ ht)) t ht
 have h2:∀q:Mon,(∀t∈q,P t.1)->∀t∈kZ q,P t.1:=by
  intro q
  induction q with
  | nil=>intro _ t ht;exact absurd ht (by simp[kZ])
  | cons u q ih=>intro h;exact h1 _ _ _ (h u (bDe ..)) (ih fun t ht=>h t (bDh _ ht))
 intro t ht;unfold jn aV at ht;refine h2 _ (fun u hu=>?_) t (List.mem_filter.1 ht).1
 obtain⟨v,hv,rfl⟩:=List.mem_map.1 hu;refine h2 _ (fun u hu=>?_) v hv
 rcases bDf.1 hu with hu|hu
 .exact ha u hu
 .exact hb u hu
theorem aW8{m:Mon}(h:lR m){S:List (List UInt8)}(hS:∀t∈m,t.1∈S):m.length<=S.length:=by
 have hn:(m.map (·.1)).Nodup:=by
  unfold List.Nodup;rw[List.pairwise_map];exact h.imp fun {s t} hlt e=>by rw[e] at hlt;exact dK.irr _ hlt
 have:(m.map (·.1)).length<=S.length:=hn.length_le_of_subset fun x hx=>by
  obtain⟨t,ht,rfl⟩:=List.mem_map.1 hx;exact hS t ht
 simpa using this
def aAx(l:Mon)(S:List Nat):Mon:=S.map fun i=>l.getD i ([],0)
theorem aCr{l:Mon}{S:List Nat}{i:Nat}{t:Fac}(h:l[i]?=some t):aAx l (S++[i])=aAx l S++[t]:=by
 unfold aAx;rw[bDl,bEe,bFd,bC7,h];rfl
theorem aOk{l:Mon}{S:List Nat}(hn:S.Nodup)(hl:∀i∈S,i<l.length)(ha:∀i,i<l.length->i∈S):(aAx l S).Perm l:=by
 have hp:S.Perm (List.range l.length):=(List.perm_ext_iff_of_nodup hn List.nodup_range).2 fun i=>by rw[List.mem_range];exact⟨hl i,ha i⟩
 have e:(List.range l.length).map (fun i=>l.getD i ([],0))=l:=by
  refine bGr fun i=>?_
  rw[bF1];by_cases h:i<l.length
  .rw[List.getElem?_range h,bC8 h];simp[bC7,h]
  .rw[bD5 (by simpa using h),bD5 Aa];rfl
 have:=hp.map fun i=>l.getD i ([],0)
 rw[e] at this;exact this
theorem aTh{l d e:Mon}(h:d.Perm e):(cnL l d).Perm (cnL l e):=(h.map _).filter _
theorem aJz{S:List Nat}{i:Nat}(h:S.Nodup)(hi:i∉S):(S++[i]).Nodup:=by
 rw[bGt];exact⟨h,by simp,fun a ha b hb=>by simp at hb;subst hb;exact fun e=>hi (by rw[<-e];exact ha)⟩
theorem aW9{l:Mon}{S:List Nat}(hn:S.Nodup)(hl:∀i∈S,i<l.length):S.length<=l.length:=by
 have:=hn.length_le_of_subset (l₂:=List.range l.length) fun i hi=>List.mem_range.2 (hl i hi)
 simpa using this
theorem bCe{l:Mon}{M:Nat}(h:∀t∈l,t.2<=M)(s:List UInt8):cf l s<=l.length*M:=by
 induction l with
 | nil=>exact bDw _
 | cons t l ih=>
  have h1:=ih fun u hu=>h u (bDh _ hu)
  have h2:=h t (bDe ..);rw[aO,bDa,bEc,bGe]
  split<;>omega
end Go.Dig
/- What every form is bounded by: its atoms come from a short store of short texts: plain mathematics. -/
namespace Go.Proofs.Y
open Go Go.Vc Go.Dig
def InS(S:List (List UInt8))(p:Pol):Prop:=∀t∈p,∀f∈t.1,f.1∈S
structure PG (S:List (List UInt8)) (p:Pol):Prop where
 good:rI p
 key:InS S p
def Sok(S:List (List UInt8)):Prop:=∀s∈S,s.length<=4000
theorem PG.len{S:List (List UInt8)}{p:Pol}(w:PG S p):∀t∈p,t.1.length<=S.length:=fun t ht=>aW8 (w.good.red t ht).1.1 (w.key t ht)
theorem InS.mono{S S':List (List UInt8)}{p:Pol}(h:∀s∈S,s∈S')(w:InS S p):InS S' p:=fun t ht f hf=>h _ (w t ht f hf)
theorem PG.mono{S S':List (List UInt8)}{p:Pol}(h:∀s∈S,s∈S')(w:PG S p):PG S' p:=⟨w.good,w.key.mono h⟩
theorem bAk{S:List (List UInt8)}{a b:Pol}(ha:InS S a)(hb:InS S b):InS S (tmL a b):=fun t ht=>by
 unfold tmL at ht;obtain⟨x,hx,ht⟩:=List.mem_flatMap.1 ht;obtain⟨y,hy,rfl⟩:=List.mem_map.1 ht;exact aMa (P:=fun s=>s∈S) (ha x hx) (hb y hy)
theorem bAl{S:List (List UInt8)}{a b:Pol}(k:Rat)(ha:InS S a)(hb:InS S b):InS S (plL a b k):=fun t ht=>by
 unfold plL at ht;rcases bDf.1 ht with ht|ht
 .exact ha t ht
 .obtain⟨y,hy,rfl⟩:=List.mem_map.1 ht;exact hb y hy
theorem aHj{S:List (List UInt8)}{l p:Pol}(h:InS S l)(e:cV l=.ok p):InS S p:=by
 rw[<-pS e];exact oV (P:=fun m:Mon=>∀f∈m,f.1∈S) h
theorem aMb{S:List (List UInt8)}{a b p:Pol}(ha:InS S a)(hb:InS S b)(e:cV (tmL a b)=.ok p):PG S p:=⟨aCh (aAf a b) e,aHj (bAk ha hb) e⟩
theorem aTi{S:List (List UInt8)}{a b p:Pol}(k:Rat)(ha:PG S a)(hb:PG S b)(e:cV (plL a b k)=.ok p):PG S p:=⟨aCh (aAg k ha.good.red hb.good.red) e,aHj (bAl k ha.key hb.key) e⟩
theorem aAy:rI []:=⟨⟨List.Pairwise.nil,fun _ h=>by simp at h⟩,fun _ h=>by simp at h,fun _ h=>by simp at h,fun _ h=>by simp at h,bDw _⟩
theorem vB{m:Mon}{q:Rat}(hm:wF m)(hd:∀f∈m,f.2<=64)(h0:q≠0)(hf:fits q):rI [(m,q)]:=
 ⟨⟨List.pairwise_cons.2 ⟨fun _ h=>(by simp at h),List.Pairwise.nil⟩,fun t h=>by rw[bDk] at h;subst h;exact h0⟩,
   fun t h=>by rw[bDk] at h;subst h;exact hm,fun t h=>by rw[bDk] at h;subst h;exact hd,fun t h=>by rw[bDk] at h;subst h;exact hf,by simp⟩
theorem bAm{q:Rat}(hf:fits q):PG [] (fO q):=by
 unfold fO
 split
 .exact⟨aAy,fun t ht=>by simp at ht⟩
 .rename_i h0;exact⟨vB uN (fun f hf=>by simp at hf) h0 hf,fun t ht f hf=>by rw[bDk] at ht;subst ht;simp at hf⟩
theorem aCs{s:List UInt8}{p:Pol}(h:gR s=.ok p):s.length<=4000/\PG [s] p:=by
 unfold gR at h
 split at h
 .cases h
 .rename_i hl;cases h;exact⟨Aa,vB (aLk s) (fun f hf=>by rw[bDk] at hf;subst hf;show 1<=64;omega) Ad fL,fun t ht f hf=>by
    rw[bDk] at ht;subst ht;exact bDk.2 (by rw[bDk.1 hf])⟩
theorem aJ0{q:Rat}(h0:q≠0)(h:fits q):fits (1 / q):=by
 have hn:nu q≠0:=fun e=>h0 (gU.1 e)
 rw[bHu,bEt];unfold fits;rw[vW q hn,den_inv q hn];exact⟨h.2,h.1⟩
theorem aTj{q:Rat}(h0:q≠0):1 / q≠0:=by
 rw[bHu,bEt];intro e;have:q*q⁻¹=q*0:=by rw[e]
 rw[Rat.mul_inv_cancel q h0,bFn] at this;exact absurd this Ad
theorem aHk{b:Tr}{a p:Pol}(ha:rI a)(h:jL b a=.ok p):∃S:List (List UInt8),S.length<=1/\Sok S/\PG S p:=by
 unfold jL at h
 split at h
 .rename_i c;cases h;have h0:c≠0:=ha.can.2 ([],c) (bDe ..);have hf:fits c:=ha.fit ([],c) (bDe ..);exact⟨[],bDw _,fun s hs=>by simp at hs,vB uN (fun f hf=>by simp at hf) (aTj h0) (aJ0 h0 hf),fun t ht f hf=>by rw[bDk] at ht;subst ht;simp at hf⟩
 .split at h
  .cases h
  .obtain⟨h1,h2⟩:=aCs h;exact⟨[_],bDx _,fun s hs=>by rw[bDk] at hs;subst hs;exact h1,h2⟩
theorem aMc(S:List (List UInt8)):PG S [([],1)]:=⟨vB uN (fun f hf=>by simp at hf) Ad fL,fun t ht f hf=>by rw[bDk] at ht;subst ht;simp at hf⟩
theorem aJ1{S:List (List UInt8)}{a:Pol}(ha:PG S a):∀{n:Nat} {p:Pol},mW a n=.ok p->PG S p
 | 0,p,h=>by cases h;exact aMc S
 | n+1,p,h=>by
  unfold mW at h;cases ho:mW a n with
  | error e=>rw[ho] at h;cases h
  | ok o=>
   rw[ho] at h;exact aMb (aJ1 ha ho).key ha.key h
theorem sF:∀(t:Tr) (d:Nat),okT d t->∀{p:Pol},bU t=.ok p->∃S:List (List UInt8),S.length<=szT t/\Sok S/\PG S p:=by
 refine bN fun t ih=>?_
 intro d hok p hp;obtain⟨op,arg,neg,l,m,name,ks⟩:=t;rw[okT] at hok;obtain⟨-,hnb,hoks⟩:=hok;have ih':∀k,k∈ks->∀{p:Pol},bU k=.ok p->∃S:List (List UInt8),S.length<=szT k/\Sok S/\PG S p:=fun k hk=>by
  obtain⟨j,hj,e⟩:=List.mem_iff_getElem.1 hk;exact ih k (aP (j:=j) (by rw[bC8 hj,e])) (d+1) (fC hoks hk)
 have two:∀{S1 S2:List (List UInt8)},Sok S1->Sok S2->Sok (S1++S2):=fun h1 h2 s hs=>(bDf.1 hs).elim (h1 s) (h2 s)
 rw[bU] at hp;unfold iI at hp;rw[szT];by_cases h1:op=1
 .rw[if_pos h1] at hp;cases hp;have hn:=hnb.2.2.2.2;rw[if_pos h1] at hn;have hz:=hn.1.sz;exact⟨[],bDw _,fun s hs=>by simp at hs,bAm ⟨hz.num,hz.den⟩⟩
 rw[if_neg h1] at hp;by_cases h2:¬(4<=op/\op<=9)
 .rw[if_neg h2] at hp;obtain⟨q1,q2⟩:=aCs hp;exact⟨[_],by rw[bD4];omega,fun s hs=>by rw[bDk] at hs;subst hs;exact q1,q2⟩
 replace h2:=Decidable.not_not.1 h2;rw[if_pos h2] at hp
 match ks,ih',hp with
 | [],_,hp=>rw[eJ] at hp;cases hp
 | k::r,ih',hp=>
  rw[eJ] at hp;rw[eF];cases ha:bU k with
  | error n=>rw[ha] at hp;cases hp
  | ok a=>
   rw[ha] at hp;obtain⟨S1,z1,s1,g1⟩:=ih' k (bDe ..) ha;dsimp only at hp;by_cases h4:op=4
   .rw[if_pos h4] at hp;exact⟨S1,Aa,s1,aTi _ ⟨aAy,fun t ht=>by simp at ht⟩ g1 hp⟩
   rw[if_neg h4] at hp;by_cases h9:op=9
   .rw[if_pos h9] at hp;by_cases hn:arg<0
    .rw[if_pos hn] at hp;cases hc:jL k a with
     | error n=>rw[hc] at hp;cases hp
     | ok c=>
      rw[hc] at hp;obtain⟨S2,z2,s2,g2⟩:=aHk g1.good hc;exact⟨S2,Aa,s2,aJ1 g2 hp⟩
    .rw[if_neg hn] at hp;exact⟨S1,Aa,s1,aJ1 g1 hp⟩
   rw[if_neg h9] at hp
   match r,ih',hp with
   | [],_,hp=>rw[eJ] at hp;cases hp
   | k'::r,ih',hp=>
    rw[eJ] at hp;rw[eF];cases hb:bU k' with
    | error n=>rw[hb] at hp;cases hp
    | ok b=>
     rw[hb] at hp;obtain⟨S2,z2,s2,g2⟩:=ih' k' (bDh _ (bDe ..)) hb;have m1:PG (S1++S2) a:=g1.mono fun s hs=>bDz _ hs
     have m2:PG (S1++S2) b:=g2.mono fun s hs=>bD0 _ hs
     have z12:(S1++S2).length<=1+(szT k+(szT k'+eF r)):=by rw[bC6];omega
     dsimp only at hp;by_cases h5:op=5
     .rw[if_pos h5] at hp;exact⟨_,z12,two s1 s2,aTi _ m1 m2 hp⟩
     rw[if_neg h5] at hp;by_cases h6:op=6
     .rw[if_pos h6] at hp;exact⟨_,z12,two s1 s2,aTi _ m1 m2 hp⟩
     rw[if_neg h6] at hp;by_cases h7:op=7
     .rw[if_pos h7] at hp;exact⟨_,z12,two s1 s2,aMb m1.key m2.key hp⟩
     rw[if_neg h7] at hp;cases hc:jL k' b with
     | error n=>rw[hc] at hp;cases hp
     | ok c=>
      rw[hc] at hp;obtain⟨S3,z3,s3,g3⟩:=aHk g2.good hc;have h0:=aVq k';exact⟨S1++S3,by rw[bC6];omega,two s1 s3,aMb (g1.mono fun s hs=>bDz _ hs).key (g3.mono fun s hs=>bD0 _ hs).key hp⟩
end Go.Proofs.Y