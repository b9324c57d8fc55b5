/- Values of atoms that suit the values of trees: an atom is read back: plain mathematics. -/
import Derived.Test.YtblecjeceecaaaaGreatDoorE66
set_option linter.all false
namespace Go.Proofs.Y
open Go Go.Vc Go.Dig
theorem aEu{p:Nat->Bool}:∀{l:List Nat},(l.takeWhile p).length=l.length->∀y∈l,p y=true
 | [],_,y,h=>by simp at h
 | c::l,e,y,h=>by
  rw[bLo] at e
  split at e
  .rename_i hc;rcases bI7.1 h with rfl|h
   .exact hc
   .exact aEu (by simpa using e) y h
  .simp at e
theorem tE{n:List Nat}(h:fD n):∃c r,n=c::r/\ltr c=true/\∀y∈r,aln y=true:=by
 have h2:=h.2.1;have h3:=h.2.2.1;cases n with
 | nil=>exact absurd rfl h3
 | cons c r=>
  have e:eB (c::r)=if ltr c=true then (r.takeWhile aln).length+1 else 0:=rfl
  rw[e] at h2
  split at h2
  .rename_i hc;exact⟨c,r,rfl,hc,aEu (by simpa using h2)⟩
  .simp at h2
theorem aWn{n:List Nat}(h:fD n):∀y∈n,y<256:=by
 obtain⟨c,r,rfl,hc,hr⟩:=tE h;have hl:=jI.1 hc;intro y hy;rcases bI7.1 hy with rfl|hy
 .omega
 .rcases aGg.1 (hr y hy) with x|x
  .have:=jI.1 x;omega
  .have:=fY.1 x;omega
theorem tF{l:List Nat}(h:∀y∈l,y<256):(b8 l).map UInt8.toNat=l:=by
 unfold b8;rw[bL4];conv=>rhs;rw[<-List.map_id l]
 refine bMn fun y hy=>?_
 show (UInt8.ofNat y).toNat=y
 rw[UInt8.toNat_ofNat'];exact bJ3 (h y hy)
def rdV(vals:List (List Nat × Rat))(l:List Nat):Option Rat:=bL vals (jL l).1
def alV(vals:List (List Nat × Rat))(s:List UInt8):Rat:=
 if s.take 4=eR then 1 / -((rdV vals (45::(s.drop 4).map UInt8.toNat)).getD 0) else (rdV vals (s.map UInt8.toNat)).getD 0
theorem xM{l:List Nat}{c:Nat}{r:List Nat}(e:l=c::r)(hc:c≠49)(hb:∀y∈l,y<256):(b8 l).take 4≠eR:=fun h=>by
 have this:(((b8 l).take 4).map UInt8.toNat).head?=(eR.map UInt8.toNat).head?:=by rw[h]
 have h2:((b8 l).take 4).map UInt8.toNat=(((b8 l).map UInt8.toNat)).take 4:=bNr;rw[h2,tF hb,e] at this;exact hc (Option.some.inj this)
theorem aAt{n:List Nat}{d:Nat}(hn:fD n)(hd:d<=30:=by decide):okT d (gA n):=by
 unfold gA;rw[okT,dB];exact⟨hd,⟨rfl,Ae,Ae,by rw[if_pos rfl];exact hn,by rw[if_neg Ae];exact bH _⟩,trivial⟩
end Go.Proofs.Y
/- Forms without limits; congruent trees have one value; a form's terms have the value of the tree: plain mathematics. -/
namespace Go.Proofs.Y
open Go Go.Vc Go.Dig
def rL(b:Tr)(a:Pol):Pol:=match a with
 | [([],c)]=>[([],1 / c)]
 | _=>[([(eR++b8 (aN (aE b,aT b.op) 3),1)],1)]
def xN(a:Pol):Nat->Pol
 | 0=>[([],1)]
 | n+1=>bZ (tmL (xN a n) a)
def unN(e:Tr)(op arg:Int)(q:Rat)(rs:List (Tr × Pol)):Pol:=
 if op=1 then jU q
 else if 4<=op/\op<=9 then
  match rs with
  | []=>[]
  | (k,a)::r=>
   if op=4 then bZ (plL [] a (-1))
   else if op=9 then if arg<0 then xN (rL k a) arg.natAbs else xN a arg.natAbs
   else match r with
    | []=>[]
    | (k',b)::_=>
     if op=5 then bZ (plL a b 1)
     else if op=6 then bZ (plL a b (-1))
     else if op=7 then bZ (tmL a b)
     else bZ (tmL a (rL k' b))
 else [([(b8 (aE e),1)],1)]
mutual
def unP:Tr->Pol
 | .mk op arg neg l m name ks=>unN (.mk op arg neg l m name ks) op arg (aK neg l m) (kG ks)
def kG:List Tr->List (Tr × Pol)
 | []=>[]
 | t::ts=>(t,unP t)::kG ts
end
theorem rM{l p:Pol}(h:bS l=.ok p):bZ l=p:=by
 unfold bS at h
 split at h
 .cases h
 .split at h
  .cases h
  .cases h;rfl
theorem aEw{s:List UInt8}{p:Pol}(h:cH s=.ok p):[([(s,1)],1)]=p:=by
 unfold cH at h
 split at h
 .cases h
 .cases h;rfl
theorem aKc{b:Tr}{a p:Pol}(h:cA b a=.ok p):rL b a=p:=by
 unfold cA at h;unfold rL
 split at h
 .cases h;rfl
 .rename_i hn
  split at h
  .cases h
  .split
   .rename_i c;exact absurd rfl (hn c)
   .exact aEw h
theorem aM6{a:Pol}:∀{n:Nat} {p:Pol},gQ a n=.ok p->xN a n=p
 | 0,p,h=>by cases h;rfl
 | n+1,p,h=>by
  unfold gQ at h;cases ho:gQ a n with
  | error e=>rw[ho] at h;cases h
  | ok o=>
   rw[ho] at h;unfold xN;rw[aM6 ho];exact rM h
theorem aAu:∀(t:Tr) {p:Pol},aO t=.ok p->unP t=p:=by
 refine eE fun t ih=>?_
 intro p hp;obtain⟨op,arg,neg,l,m,name,ks⟩:=t;have ih':∀k,k∈ks->∀{p:Pol},aO k=.ok p->unP k=p:=fun k hk=>by
  obtain⟨j,hj,e⟩:=List.mem_iff_getElem.1 hk;exact ih k (bD (j:=j) (by rw[bIq hj,e]))
 rw[aO] at hp;rw[unP];unfold gO at hp;unfold unN;by_cases h1:op=1
 .rw[if_pos h1] at hp ⊢;cases hp;rfl
 rw[if_neg h1] at hp ⊢;by_cases h2:¬(4<=op/\op<=9)
 .rw[if_neg h2] at hp ⊢;exact aEw hp
 replace h2:=Decidable.not_not.1 h2;rw[if_pos h2] at hp ⊢
 match ks,ih',hp with
 | [],_,hp=>rw[dC] at hp;cases hp
 | k::r,ih',hp=>
  rw[dC] at hp;rw[kG];cases ha:aO k with
  | error n=>rw[ha] at hp;cases hp
  | ok a=>
   rw[ha] at hp;rw[ih' k (bIw ..) ha];dsimp only at hp ⊢;by_cases h4:op=4
   .rw[if_pos h4] at hp ⊢;exact rM hp
   rw[if_neg h4] at hp ⊢;by_cases h9:op=9
   .rw[if_pos h9] at hp ⊢;by_cases hn:arg<0
    .rw[if_pos hn] at hp ⊢;cases hc:cA k a with
     | error n=>rw[hc] at hp;cases hp
     | ok c=>
      rw[hc] at hp;rw[aKc hc];exact aM6 hp
    .rw[if_neg hn] at hp ⊢;exact aM6 hp
   rw[if_neg h9] at hp ⊢
   match r,ih',hp with
   | [],_,hp=>rw[dC] at hp;cases hp
   | k'::r,ih',hp=>
    rw[dC] at hp;rw[kG];cases hb:aO k' with
    | error n=>rw[hb] at hp;cases hp
    | ok b=>
     rw[hb] at hp;rw[ih' k' (bIz _ (bIw ..)) hb];dsimp only at hp ⊢;by_cases h5:op=5
     .rw[if_pos h5] at hp ⊢;exact rM hp
     rw[if_neg h5] at hp ⊢;by_cases h6:op=6
     .rw[if_pos h6] at hp ⊢;exact rM hp
     rw[if_neg h6] at hp ⊢;by_cases h7:op=7
     .rw[if_pos h7] at hp ⊢;exact rM hp
     rw[if_neg h7] at hp ⊢;cases hc:cA k' b with
     | error n=>rw[hc] at hp;cases hp
     | ok c=>
      rw[hc] at hp;rw[aKc hc];exact rM hp
def aCs(vals:List (List Nat × Rat)):Mon->Rat->Option Rat
 | [],q=>some q
 | f::m,q=>if nmA f.1 then (eN vals (f.1.map UInt8.toNat)).bind fun x=>aCs vals m (q*x^f.2) else none
def xO(vals:List (List Nat × Rat)):Pol->Rat->Option Rat
 | [],s=>some s
 | t::p,s=>(aCs vals t.1 t.2).bind fun x=>xO vals p (s+x)
end Go.Proofs.Y
/- Literals in the place of variables: what becomes of a polynomial form: plain mathematics. -/
namespace Go.Proofs.Y
open Go Go.Vc Go.Dig
def Pln(m:Mon):Prop:=∀t∈m,t.1.take 4≠eR
theorem vR{m:Mon}(h:Pln m){s:List UInt8}(hs:s.take 4=eR):cf m s=0:=yP fun t ht e=>h t ht (by rw[e];exact hs)
theorem aKf{s u:List UInt8}(h:inv s=some u):s.take 4=eR\/u.take 4=eR:=by
 rcases aAm.1 h with ⟨-,rfl⟩|⟨-,rfl⟩
 .exact .inr rfl
 .exact .inl rfl
theorem aM7{a b:Mon}(ha:Pln a)(hb:Pln b)(s:List UInt8):cf (jn a b) s=cf a s+cf b s:=by
 rw[sZ,pG];have e:∀m:Mon,Pln m->cf m s=0\/rv m s=0:=fun m hm=>by
  unfold rv;cases hi:inv s with
  | none=>exact .inr rfl
  | some u=>
   rcases aKf hi with h|h
   .exact .inl (vR hm h)
   .exact .inr (vR hm h)
 by_cases hs:s.take 4=eR
 .rw[vR ha hs,vR hb hs];omega
 .have e':∀m:Mon,Pln m->rv m s=0:=fun m hm=>by
   unfold rv;cases hi:inv s with
   | none=>rfl
   | some u=>exact vR hm ((aKf hi).resolve_left hs)
  rw[e' a ha,e' b hb];omega
theorem bD5{a b:Mon}(ha:Pln a)(hb:Pln b):Pln (jn a b):=fun t ht hs=>by
 have h1:=sY (nM a b).1 ht;rw[aM7 ha hb,vR ha hs,vR hb hs] at h1;exact (nM a b).2 t ht h1.symm
def uP(p:Pol):Prop:=∀t∈p,Pln t.1
section
variable (vals:List (List Nat × Rat))
def bnd(s:List UInt8):Option Rat:=if nmA s then eN vals (s.map UInt8.toNat) else none
def al0(s:List UInt8):Rat:=(bnd vals s).getD 1
def rs(m:Mon):Mon:=m.filter fun t=>(bnd vals t.1).isNone
def sb(f:Mon->Rat)(m:Mon):Rat:=ph (al0 vals) m*f (rs vals m)
def Sub(p' p:Pol):Prop:=uP p/\uP p'/\∀f,sm f p'=sm (sb vals f) p
theorem qG{l:Pol}(h:uP l):uP (bZ l):=tB (P:=Pln) h
theorem aWs{a b:Pol}(ha:uP a)(hb:uP b):uP (tmL a b):=fun t ht=>by
 unfold tmL at ht;obtain⟨x,hx,ht⟩:=List.mem_flatMap.1 ht;obtain⟨y,hy,rfl⟩:=List.mem_map.1 ht;exact bD5 (ha x hx) (hb y hy)
theorem aM8{a b:Pol}(k:Rat)(ha:uP a)(hb:uP b):uP (plL a b k):=fun t ht=>by
 unfold plL at ht;rcases bIx.1 ht with ht|ht
 .exact ha t ht
 .obtain⟨y,hy,rfl⟩:=List.mem_map.1 ht;exact hb y hy
theorem Sub.con(q:Rat):Sub vals (jU q) (jU q):=by
 have h:uP (jU q):=fun t ht f hf=>by
  unfold jU at ht
  split at ht
  .simp at ht
  .rw[bI2] at ht;subst ht;simp at hf
 refine⟨h,h,fun f=>?_⟩
 unfold jU
 split
 .rfl
 .show q*f []+0=q*(1*f [])+0
  rw[bKb]
end
theorem aM9{e:Tr}{arg:Int}{q:Rat}{r:List (Tr × Pol)}:unN e 1 arg q r=jU q:=by unfold unN;rw[if_pos rfl]
theorem aHf{e:Tr}{op arg:Int}{q:Rat}{r:List (Tr × Pol)}(h1:op≠1)(h2:¬(4<=op/\op<=9)):unN e op arg q r=[([(b8 (aE e),1)],1)]:=by unfold unN;rw[if_neg h1,if_neg h2]
theorem aHg{e k:Tr}{arg:Int}{q:Rat}{a:Pol}:unN e 4 arg q [(k,a)]=bZ (plL [] a (-1)):=by
 unfold unN;rw[if_neg Ae,if_pos Ae];exact if_pos rfl
theorem aWt{e k:Tr}{arg:Int}{q:Rat}{a:Pol}(h:0<=arg):unN e 9 arg q [(k,a)]=xN a arg.natAbs:=by
 unfold unN;rw[if_neg Ae,if_pos Ae];exact (if_neg Ae).trans ((if_pos rfl).trans (if_neg Aa))
theorem aNa{e k k':Tr}{arg:Int}{q:Rat}{a b:Pol}:unN e 5 arg q [(k,a),(k',b)]=bZ (plL a b 1):=by
 unfold unN;rw[if_neg Ae,if_pos Ae];exact (if_neg Ae).trans ((if_neg Ae).trans (if_pos rfl))
theorem aNb{e k k':Tr}{arg:Int}{q:Rat}{a b:Pol}:unN e 6 arg q [(k,a),(k',b)]=bZ (plL a b (-1)):=by
 unfold unN;rw[if_neg Ae,if_pos Ae];exact (if_neg Ae).trans ((if_neg Ae).trans ((if_neg Ae).trans (if_pos rfl)))
theorem aNc{e k k':Tr}{arg:Int}{q:Rat}{a b:Pol}:unN e 7 arg q [(k,a),(k',b)]=bZ (tmL a b):=by
 unfold unN;rw[if_neg Ae,if_pos Ae];exact (if_neg Ae).trans ((if_neg Ae).trans ((if_neg Ae).trans ((if_neg Ae).trans (if_pos rfl))))
theorem tG(x:Rat):-1*x=-x:=by rw[Rat.neg_mul,bKb]
theorem aWu(q:Rat)(f:Mon->Rat):sm f (unP (mkL q))=q*f []/\uP (unP (mkL q)):=by
 have hn:∀x:Rat,0<=x->unP (numQ x)=jU x:=fun x hx=>by
  unfold numQ;rw[unP,aM9,jO]
 have hc:∀x:Rat,sm f (jU x)=x*f []:=fun x=>by
  unfold jU
  split
  .rename_i h;rw[h,Rat.zero_mul];rfl
  .show x*f []+0=_
   rw[bL6]
 unfold mkL
 split
 .rename_i hq;have h0:0<=-q:=by rw[<-Rat.neg_zero];exact Rat.neg_le_neg (Rat.le_of_lt hq)
  unfold aG;rw[unP,kG,kG,aHg];show sm f (bZ (plL [] (unP (numQ (-q))) (-1)))=_/\uP (bZ (plL [] (unP (numQ (-q))) (-1)));rw[hn _ h0,dW,mH,hc];refine⟨?_,qG (aM8 _ (fun t ht=>by simp at ht) (Sub.con [] _).1)⟩
  show 0+-1*(-q*f [])=_
  rw[bMy,tG,Rat.neg_mul,Rat.neg_neg]
 .rename_i hq;rw[hn _ (Rat.not_lt.1 hq)];exact⟨hc q,(Sub.con [] _).1⟩
mutual
def nS:Tr->Prop
 | .mk op arg _ _ _ _ ks=>((1<=op/\op<=7)\/(op=9/\0<=arg))/\tH ks
def tH:List Tr->Prop
 | []=>True
 | t::ts=>nS t/\tH ts
end
theorem aEx:∀{ts:List Tr} {t:Tr},tH ts->t∈ts->nS t
 | u::ts,t,h,ht=>by
  rw[tH] at h;rcases bI7.1 ht with rfl|ht
  .exact h.1
  .exact aEx h.2 ht
theorem nT{s:List UInt8}(h:s.take 4≠eR):uP [([(s,1)],1)]:=fun t ht f hf=>by
 rw[bI2] at ht;subst ht;rw[bI2] at hf;subst hf;exact h
theorem aPl(m:Mon):sX [(m,(1:Rat))]:=⟨List.pairwise_cons.2 ⟨fun _ h=>(by simp at h),List.Pairwise.nil⟩,fun t ht=>by rw[bI2] at ht;subst ht;exact show (1:Rat)≠0 by decide⟩
theorem bBe(q:Rat):sX (jU q):=by
 unfold jU
 split
 .exact⟨List.Pairwise.nil,fun t ht=>by simp at ht⟩
 .rename_i h;exact⟨List.pairwise_cons.2 ⟨fun _ h=>(by simp at h),List.Pairwise.nil⟩,fun t ht=>by rw[bI2] at ht;subst ht;exact h⟩
theorem bBf(a:Pol):∀n:Nat,sX (xN a n)
 | 0=>aPl []
 | n+1=>eH _
theorem aWw:∀(t:Tr),sX (unP t)
 | .mk op arg neg l m name ks=>by
  rw[unP];unfold unN
  split
  .exact bBe _
  .split
   .split
    .exact⟨List.Pairwise.nil,fun t ht=>by simp at ht⟩
    .split
     .exact eH _
     .split
      .split<;>exact bBf _ _
      .split
       .exact⟨List.Pairwise.nil,fun t ht=>by simp at ht⟩
       .split
        .exact eH _
        .split
         .exact eH _
         .split<;>exact eH _
   .exact aPl _
end Go.Proofs.Y
/- Simplifying keeps the form of a polynomial; the formal derivative: plain mathematics. -/
namespace Go.Proofs.Y
open Go Go.Vc Go.Dig
def bH1(p:Pol):Prop:=∀t∈p,aB4 t.1
theorem red_norm{l:Pol}(h:bH1 l):bH1 (bZ l):=tB (P:=aB4) h
theorem red_con(q:Rat):bH1 (jU q):=fun t ht=>by
 unfold jU at ht
 split at ht
 .simp at ht
 .rw[bI2] at ht;subst ht;exact aGv
theorem red_nilP:bH1 []:=fun t ht=>by simp at ht
theorem red_oneP:bH1 [([],1)]:=fun t ht=>by rw[bI2] at ht;subst ht;exact aGv
theorem red_single(s:List UInt8):bH1 [([(s,1)],1)]:=fun t ht=>by rw[bI2] at ht;subst ht;exact bAl s
theorem aN3(a:Pol):∀n:Nat,bH1 (xN a n)
 | 0=>red_oneP
 | n+1=>red_norm (bDl _ _)
theorem un_red:∀t:Tr,bH1 (unP t):=by
 refine eE fun t ih=>?_
 obtain⟨op,arg,neg,l,m,name,ks⟩:=t;rw[unP];unfold unN
 split
 .exact red_con _
 split
 .match ks,ih with
  | [],_=>rw[kG];exact red_nilP
  | k::r,ih=>
   rw[kG];dsimp only;have h1:=ih k (bD (j:=0) rfl)
   split
   .exact red_norm (bDm _ red_nilP h1)
   split
   .split<;>exact aN3 _ _
   match r,ih with
   | [],_=>rw[kG];exact red_nilP
   | k'::r,ih=>
    rw[kG];dsimp only;have h2:=ih k' (bD (j:=1) rfl)
    split
    .exact red_norm (bDm _ h1 h2)
    split
    .exact red_norm (bDm _ h1 h2)
    split<;>exact red_norm (bDl _ _)
 .exact red_single _
def Eqv(a b:Pol):Prop:=∀f:Mon->Rat,sm f a=sm f b
theorem Eqv.eq{a b:Pol}(ha:sX a)(hb:sX b)(h:Eqv a b):a=b:=aU8 ha hb h
theorem sm_con(q:Rat)(f:Mon->Rat):sm f (jU q)=q*f []:=by
 unfold jU
 split
 .rename_i h;rw[h,Rat.zero_mul];rfl
 .show q*f []+0=_
  rw[bL6]
theorem sm_conL{q:Rat}{p:Pol}(h:bH1 p)(f:Mon->Rat):sm f (tmL (jU q) p)=q*sm f p:=by
 rw[nP,sm_con]
 congr 1
 exact jS fun t ht=>by rw[jn_nil (h t ht)]
theorem un_numE{neg:Bool}{arg:Int}{l m name:List Nat}{ks:List Tr}:unP (.mk 1 arg neg l m name ks)=jU (aK neg l m):=by rw[unP,aM9]
theorem bBg{neg:Bool}{arg:Int}{l m name:List Nat}{k:Tr}:unP (.mk 4 arg neg l m name [k])=bZ (plL [] (unP k) (-1)):=by rw[unP,kG,kG,aHg]
theorem rN{neg:Bool}{arg:Int}{l m name:List Nat}{k k':Tr}:unP (.mk 5 arg neg l m name [k,k'])=bZ (plL (unP k) (unP k') 1):=by rw[unP,kG,kG,kG,aNa]
theorem bBh{neg:Bool}{arg:Int}{l m name:List Nat}{k k':Tr}:unP (.mk 6 arg neg l m name [k,k'])=bZ (plL (unP k) (unP k') (-1)):=by rw[unP,kG,kG,kG,aNb]
theorem mR{neg:Bool}{arg:Int}{l m name:List Nat}{k k':Tr}:unP (.mk 7 arg neg l m name [k,k'])=bZ (tmL (unP k) (unP k')):=by rw[unP,kG,kG,kG,aNc]
theorem un_powE{neg:Bool}{arg:Int}{l m name:List Nat}{k:Tr}(h:0<=arg):unP (.mk 9 arg neg l m name [k])=xN (unP k) arg.natAbs:=by rw[unP,kG,kG,aWt h]
theorem bD7(f:Mon->Rat)(p:Pol):sm f (bZ (plL [] p (-1)))=-(sm f p):=by
 rw[dW,mH];show 0+-1*sm f p=_;rw[bMy,tG]
theorem un_mkL(q:Rat):unP (mkL q)=jU q:=Eqv.eq (aWw _) (bBe q) fun f=>by rw[(aWu q f).1,sm_con]
theorem un_lit'{t:Tr}(h:okG t){v:Rat}(e:uN t=some v):unP t=jU v:=by
 obtain⟨op,arg,neg,l,m,name,ks⟩:=t;by_cases h1:op=1
 .subst h1;rw[litT_num rfl] at e;cases e;exact un_numE
 by_cases h4:op=4
 .subst h4;rw[okG] at h;obtain⟨k,rfl⟩:=aM1 h.1.1 rfl;obtain⟨op0,arg0,neg0,l0,m0,name0,ks0⟩:=k;rw[litT_neg rfl] at e
  split at e
  .rename_i h0;subst h0;cases e;rw[bBg,un_numE];refine Eqv.eq (eH _) (bBe _) fun f=>?_
   rw[bD7,sm_con,sm_con,Rat.neg_mul]
  .cases e
 .rw[litT_no h1 h4] at e;cases e
theorem un_negS{e a:Tr}(he:unP e=bZ (plL [] (unP a) (-1)))(ha:okG a):unP (bDp e a)=unP e:=by
 unfold bDp;cases hl:uN a with
 | some v=>
  show unP (mkL (-v))=_
  rw[un_mkL,he];refine Eqv.eq (bBe _) (eH _) fun f=>?_
  rw[bD7,un_lit' ha hl,sm_con,sm_con,Rat.neg_mul]
 | none=>
  show unP (if aJx a then bDo a else e)=_
  split
  .rename_i hn;obtain⟨k,neg,l,m,name,arg,rfl,hk,-⟩:=isNeg_kidG ha hn;rw[hk,he,bBg];refine Eqv.eq (aWw _) (eH _) fun f=>?_
   rw[bD7,bD7,Rat.neg_neg]
  .rfl
theorem sm_conR{q:Rat}{p:Pol}(h:bH1 p)(f:Mon->Rat):sm f (tmL p (jU q))=q*sm f p:=by rw[aG9,sm_conL h]
theorem un_binS{e a b:Tr}{op:Int}(ha:okG a)(hb:okG b)(h:(op=5/\unP e=bZ (plL (unP a) (unP b) 1))\/(op=6/\unP e=bZ (plL (unP a) (unP b) (-1)))\/(op=7/\unP e=bZ (tmL (unP a) (unP b)))):unP (bHv e op a b)=unP e:=by
 have hce:sX (unP e):=aWw e;unfold bHv;cases hf:bGb op a b with
 | some q=>
  show unP (mkL q)=_
  unfold bGb at hf;cases hx:uN a with
  | none=>rw[hx] at hf;cases hf
  | some x=>
   cases hy:uN b with
   | none=>rw[hx,hy] at hf;cases hf
   | some y=>
    rw[hx,hy] at hf;have hf:bGa op x y=some q:=hf;rw[un_mkL];have e1:=un_lit' ha hx;have e2:=un_lit' hb hy;refine Eqv.eq (bBe _) hce fun f=>?_
    rw[sm_con];unfold bGa at hf;rcases h with ⟨rfl,he⟩|⟨rfl,he⟩|⟨rfl,he⟩
    .rw[if_pos rfl] at hf;rw[he,dW,mH,e1,e2,sm_con,sm_con,<-rI hf,Rat.add_mul,bKb]
    .rw[if_neg Ae,if_pos rfl] at hf;rw[he,dW,mH,e1,e2,sm_con,sm_con,<-rI hf,tG,bMd,Rat.add_mul,Rat.neg_mul]
    .rw[if_neg Ae,if_neg Ae,if_pos rfl] at hf;rw[he,dW,e1,e2,sm_conL (red_con y),sm_con,<-rI hf,bLc]
 | none=>
  rcases h with ⟨rfl,he⟩|⟨rfl,he⟩|⟨rfl,he⟩
  .show unP (if (5:Int)=5 then addS e a b else _)=_
   rw[if_pos rfl];unfold addS
   split
   .rename_i h0;refine Eqv.eq (aWw _) hce fun f=>?_
    rw[he,dW,mH,un_lit' ha h0,sm_con,Rat.zero_mul,bMy,bKb]
   split
   .rename_i h0;refine Eqv.eq (aWw _) hce fun f=>?_
    rw[he,dW,mH,un_lit' hb h0,sm_con,Rat.zero_mul,bNd,bL6]
   split
   .rename_i hn;obtain⟨k,neg,l,m,name,arg,rfl,hk,-⟩:=isNeg_kidG hb hn;rw[hk];unfold aG;rw[bBh];refine Eqv.eq (eH _) hce fun f=>?_
    rw[he,dW,dW,mH,mH,bBg,bD7,tG,bKb]
   .rfl
  .show unP (if (6:Int)=5 then addS e a b else if (6:Int)=6 then bHt e a b else _)=_
   rw[if_neg Ae,if_pos rfl];unfold bHt
   split
   .rename_i h0;refine Eqv.eq (aWw _) hce fun f=>?_
    rw[he,dW,mH,un_lit' hb h0,sm_con,Rat.zero_mul,bNd,bL6]
   split
   .rename_i h0;have hn:unP (aG 4 0 [b])=bZ (plL [] (unP b) (-1)):=by unfold aG;rw[bBg]
    rw[un_negS hn hb,hn];refine Eqv.eq (eH _) hce fun f=>?_
    rw[he,bD7,dW,mH,un_lit' ha h0,sm_con,Rat.zero_mul,bMy,tG]
   split
   .rename_i hn;obtain⟨k,neg,l,m,name,arg,rfl,hk,-⟩:=isNeg_kidG hb hn;rw[hk];unfold aG;rw[rN];refine Eqv.eq (eH _) hce fun f=>?_
    rw[he,dW,dW,mH,mH,bBg,bD7,tG,bKb,Rat.neg_neg]
   .rfl
  .show unP (if (7:Int)=5 then addS e a b else if (7:Int)=6 then bHt e a b else if (7:Int)=7 then mulS e a b else _)=_
   rw[if_neg Ae,if_neg Ae,if_pos rfl];unfold mulS
   split
   .rename_i h0;rw[un_mkL];refine Eqv.eq (bBe _) hce fun f=>?_
    rw[he,dW,sm_con,Rat.zero_mul];rcases h0 with h0|h0
    .rw[un_lit' ha h0,sm_conL (un_red b),Rat.zero_mul]
    .rw[un_lit' hb h0,sm_conR (un_red a),Rat.zero_mul]
   split
   .rename_i h0;refine Eqv.eq (aWw _) hce fun f=>?_
    rw[he,dW,un_lit' ha h0,sm_conL (un_red b),bKb]
   split
   .rename_i h0;refine Eqv.eq (aWw _) hce fun f=>?_
    rw[he,dW,un_lit' hb h0,sm_conR (un_red a),bKb]
   split
   .rename_i h0;have hn:unP (aG 4 0 [b])=bZ (plL [] (unP b) (-1)):=by unfold aG;rw[bBg]
    rw[un_negS hn hb,hn];refine Eqv.eq (eH _) hce fun f=>?_
    rw[he,bD7,dW,un_lit' ha h0,sm_conL (un_red b),tG]
   .rfl
theorem sm_powcon(x:Rat)(f:Mon->Rat):∀n:Nat,sm f (xN (jU x) n)=x^n*f []
 | 0=>by
  show 1*f []+0=_
  rw[bL6,bLx]
 | n+1=>by
  show sm f (bZ (tmL (xN (jU x) n) (jU x)))=_
  rw[dW,sm_conR (aN3 _ _),sm_powcon x f n,bL7,<-bLc,bMz x]
theorem un_powS{e a:Tr}{arg:Int}(ha:okG a)(h0:0<=arg)(he:unP e=xN (unP a) arg.natAbs):unP (bHx e arg a)=unP e:=by
 unfold bHx;cases hp:bHw arg a with
 | some q=>
  show unP (mkL q)=_
  unfold bHw at hp;cases hx:uN a with
  | none=>rw[hx] at hp;cases hp
  | some x=>
   rw[hx] at hp;have hp:(if arg<0/\x=0 then none else dZ (oX x arg))=some q:=hp
   rw[if_neg Aa] at hp;have hq:=rI hp;unfold oX at hq;rw[if_neg Aa] at hq;rw[un_mkL,he,un_lit' ha hx];refine Eqv.eq (bBe _) (bBf _ _) fun f=>?_
   rw[sm_con,sm_powcon,<-hq,show arg.natAbs=arg.toNat by omega]
 | none=>
  show unP (if arg=0 then mkL 1 else if arg=1 then a else e)=_
  split
  .rename_i h;rw[un_mkL,he,h];rfl
  split
  .rename_i h;rw[he,h];refine Eqv.eq (aWw _) (bBf _ _) fun f=>?_
   show _=sm f (bZ (tmL [([],1)] (unP a)))
   rw[dW,show ([([],1)]:Pol)=jU 1 from rfl,sm_conL (un_red a),bKb]
  .rfl
theorem un_sim:∀(t:Tr),okG t->nS t->unP (bDq t)=unP t:=by
 refine eE fun t ih=>?_
 intro hok hp;obtain⟨op,arg,neg,l,m,name,ks⟩:=t;rw[okG] at hok;rw[nS] at hp;obtain⟨hnb,hks⟩:=hok;obtain⟨hop,hpk⟩:=hp;have hn1:=hnb.1;rw[bDq];by_cases h0:op=1\/op=2\/op=3
 .have:ks=[]:=by
   refine bI5 ?_;unfold bM at hn1;rw[if_pos h0] at hn1;omega
  subst this;rw[aV8];rfl
 by_cases hone:op=4\/op=9
 .obtain⟨k,rfl⟩:=aM1 hn1 (by unfold bM;rcases hone with rfl|rfl<;>rfl);rw[aJl] at hks;rw[tH] at hpk;have hs:=ih k (bD (j:=0) rfl) hks.1 hpk.1;have hg:=simT_G hks.1;rw[aV8,aV8];rcases hone with rfl|rfl
  .have e4:∀x:Tr,bGc 4 arg x [bDq k]=bDp x (bDq k):=fun x=>by show (if (4:Int)=4 then bDp x (bDq k) else if (4:Int)=9 then bHx x arg (bDq k) else x)=_;rw[if_pos rfl]
   rw[e4,un_negS (by rw[bBg]) hg,bBg,bBg,hs]
  .have e9:∀x:Tr,bGc 9 arg x [bDq k]=bHx x arg (bDq k):=fun x=>by show (if (9:Int)=4 then bDp x (bDq k) else if (9:Int)=9 then bHx x arg (bDq k) else x)=_;rw[if_neg Ae,if_pos rfl]
   have ha:0<=arg:=Aa;rw[e9,un_powS hg ha (by rw[un_powE ha]),un_powE ha,un_powE ha,hs]
 .obtain⟨k,k',rfl⟩:=aWe hn1 (by unfold bM;rw[if_neg Aa,if_neg Aa,if_pos Aa]);rw[aJl,aJl] at hks;rw[tH,tH] at hpk;have hs:=ih k (bD (j:=0) rfl) hks.1 hpk.1;have hs':=ih k' (bD (j:=1) rfl) hks.2.1 hpk.2.1;have hg:=simT_G hks.1;have hg':=simT_G hks.2.1;rw[aV8,aV8,aV8];have h58:op=5\/op=6\/op=7\/op=8:=Aa;show unP (if op=5\/op=6\/op=7\/op=8 then bHv _ op _ _ else _)=_
  rw[if_pos h58];have h57:op=5\/op=6\/op=7:=Aa;rcases h57 with rfl|rfl|rfl
  .rw[un_binS hg hg' (.inl ⟨rfl,by rw[rN]⟩),rN,rN,hs,hs']
  .rw[un_binS hg hg' (.inr (.inl ⟨rfl,by rw[bBh]⟩)),bBh,bBh,hs,hs']
  .rw[un_binS hg hg' (.inr (.inr ⟨rfl,by rw[mR]⟩)),mR,mR,hs,hs']
end Go.Proofs.Y
/- The formal derivative of a polynomial form: plain mathematics. -/
namespace Go.Proofs.Y
open Go Go.Vc Go.Dig
theorem uT{k k':Tr}(a:Pol)(h1:aE k=aE k')(h2:aT k.op=aT k'.op):rL k a=rL k' a:=by unfold rL;rw[h1,h2]
theorem aPm{t u:Tr}(e:key t=key u):aT t.op=aT u.op:=by
 obtain⟨op,arg,neg,l,m,name,ks⟩:=t;obtain⟨op',arg',neg',l',m',name',ks'⟩:=u;rw[key,key,Kt.mk.injEq] at e;rw[show (Tr.mk op arg neg l m name ks).op=op from rfl,e.1];rfl
theorem bD8:∀(t u:Tr),key t=key u->unP t=unP u:=by
 refine eE fun t ih=>?_
 intro u e;have et:=uF e;obtain⟨op,arg,neg,l,m,name,ks⟩:=t;obtain⟨op',arg',neg',l',m',name',ks'⟩:=u;rw[key,key,Kt.mk.injEq] at e;obtain⟨rfl,rfl,e3,rfl,e5⟩:=e;rw[unP,unP,e3];unfold unN;rw[et];by_cases h1:op=1
 .rw[if_pos h1,if_pos h1]
 rw[if_neg h1,if_neg h1];by_cases h2:4<=op/\op<=9
 .rw[if_pos h2,if_pos h2]
  match ks,ih,e5 with
  | [],_,e5=>
   have:ks'=[]:=tD e5 |>.symm▸rfl
   rw[this]
  | k::r,ih,e5=>
   obtain⟨k',r',rfl,a1,a2⟩:=qD e5;have g1:=ih k (bD (j:=0) rfl) k' a1;rw[kG,kG,g1];dsimp only;by_cases h4:op=4
   .rw[if_pos h4,if_pos h4]
   rw[if_neg h4,if_neg h4];by_cases h9:op=9
   .rw[if_pos h9,if_pos h9,uT _ (uF a1) (aPm a1)]
   rw[if_neg h9,if_neg h9]
   match r,ih,a2 with
   | [],_,a2=>
    have:r'=[]:=tD a2 |>.symm▸rfl
    rw[this]
   | j::q,ih,a2=>
    obtain⟨j',q',rfl,b1,b2⟩:=qD a2;have g2:=ih j (bD (j:=1) rfl) j' b1;rw[kG,kG,g2];dsimp only;rw[uT _ (uF b1) (aPm b1)]
 .rw[if_neg h2,if_neg h2]
section
variable (x:List UInt8)
def dcM(m:Mon):Mon:=bZ (m.map fun t=>(t.1,if t.1=x then t.2-1 else t.2))
theorem cf_dc{m:Mon}(h:kN m)(s:List UInt8):cf (dcM x m) s=if s=x then cf m s-1 else cf m s:=by
 unfold dcM;rw[aGt,aVa (fun s n=>if s=x then n-1 else n) (fun s=>by split<;>rfl) h]
theorem pln_dc{m:Mon}(h:kN m)(hp:Pln m):Pln (dcM x m):=fun t ht hs=>by
 have h1:=sY (eH _).1 ht;have h2:cf (dcM x m) t.1=0:=by
  rw[cf_dc x h,vR hp hs]
  split<;>rfl
 exact (eH _).2 t ht (h1.symm.trans h2)
def dn(f:Mon->Rat)(m:Mon):Rat:=((cf m x:Nat):Rat)*f (dcM x m)
theorem dc_jn{a b:Mon}(ha:kN a)(pa:Pln a)(pb:Pln b)(h:cf a x≠0):dcM x (jn a b)=jn (dcM x a) b:=
 mQ (eH _) (nM _ _) fun s=>by
  rw[cf_dc x (nM a b).1,aM7 pa pb,aM7 (pln_dc x ha pa) pb,cf_dc x ha]
  split
  .rename_i e;subst e;omega
  .rfl
theorem dn_jn{a b:Mon}(ha:kN a)(hb:kN b)(pa:Pln a)(pb:Pln b)(f:Mon->Rat):dn x f (jn a b)=dn x (fun m=>f (jn m b)) a+dn x (fun m=>f (jn a m)) b:=by
 unfold dn;rw[aM7 pa pb];have e1:((cf a x:Nat):Rat)*f (dcM x (jn a b))=((cf a x:Nat):Rat)*f (jn (dcM x a) b):=by
  by_cases h:cf a x=0
  .rw[h];show ((0:Nat):Rat)*_=((0:Nat):Rat)*_;rw[show ((0:Nat):Rat)=0 from rfl,Rat.zero_mul,Rat.zero_mul]
  .rw[dc_jn x ha pa pb h]
 have e2:((cf b x:Nat):Rat)*f (dcM x (jn a b))=((cf b x:Nat):Rat)*f (jn a (dcM x b)):=by
  by_cases h:cf b x=0
  .rw[h];show ((0:Nat):Rat)*_=((0:Nat):Rat)*_;rw[show ((0:Nat):Rat)=0 from rfl,Rat.zero_mul,Rat.zero_mul]
  .rw[bAk a b,dc_jn x hb pb pa h,bAk]
 rw[Rat.natCast_add,Rat.add_mul,e1,e2]
def bIm(p:Pol):Prop:=∀t∈p,kN t.1
theorem dn_tm{a b:Pol}(ha:bH1 a)(hb:bH1 b)(pa:uP a)(pb:uP b)(f:Mon->Rat):sm (dn x f) (tmL a b)=sm (dn x fun m=>sm (fun n=>f (jn m n)) b) a+sm (fun m=>sm (dn x fun n=>f (jn m n)) b) a:=by
 have e:sm (fun m=>sm (fun n=>dn x f (jn m n)) b) a=sm (fun m=>sm (fun n=>dn x (fun u=>f (jn u n)) m) b+sm (dn x fun n=>f (jn m n)) b) a:=by
  refine jS fun m hm=>?_
  rw[<-aU6];exact jS fun n hn=>dn_jn x (ha m hm).1.1 (hb n hn).1.1 (pa m hm) (pb n hn) f
 rw[nP,e,aU6]
 congr 1
 refine jS fun m hm=>?_
 unfold dn;rw[aB3]
def Der(a' a:Pol):Prop:=bH1 a/\uP a/\∀f,sm f a'=sm (dn x f) a
theorem dn_pow{a a':Pol}(h:Der x a' a):∀(n:Nat),bH1 (xN a n)/\uP (xN a n)/\∀f,sm (dn x f) (xN a n)=((n:Nat):Rat)*sm f (tmL (xN a (n-1)) a')
 | 0=>⟨red_oneP,fun t ht f hf=>by rw[show xN a 0=[([],1)] from rfl,bI2] at ht;subst ht;simp at hf,fun f=>by
   show 1*(((cf ([]:Mon) x:Nat):Rat)*f (dcM x []))+0=((0:Nat):Rat)*_
   rw[pF,show ((0:Nat):Rat)=0 from rfl,Rat.zero_mul,Rat.zero_mul,bNd,bL6]⟩
 | n+1=>by
  obtain⟨h1,h2,h3⟩:=dn_pow h n;refine⟨red_norm (bDl _ _),qG (aWs h2 h.2.1),fun f=>?_⟩
  show sm (dn x f) (bZ (tmL (xN a n) a))=_*sm f (tmL (xN a n) a')
  rw[dW,dn_tm x h1 h.1 h2 h.2.1,h3];have e2:sm (fun m=>sm (dn x fun n=>f (jn m n)) a) (xN a n)=sm f (tmL (xN a n) a'):=by
   rw[nP];exact jS fun m _=>(h.2.2 _).symm
  rw[e2,<-nP];have e3:((n:Nat):Rat)*sm f (tmL (tmL (xN a (n-1)) a') a)=((n:Nat):Rat)*sm f (tmL (xN a n) a'):=by
   cases n with
   | zero=>rw[show ((0:Nat):Rat)=0 from rfl,Rat.zero_mul,Rat.zero_mul]
   | succ n=>
    congr 1
    show sm f (tmL (tmL (xN a n) a') a)=sm f (tmL (bZ (tmL (xN a n) a)) a')
    rw[aV4,aJu (fun g=>aG9 a' a g),<-aV4,aO9 fun g=>(dW g (tmL (xN a n) a)).symm]
  rw[e3,Rat.natCast_add,Rat.add_mul,show ((1:Nat):Rat)=1 from rfl,bKb]
end
end Go.Proofs.Y
/- The derivative of a polynomial has the formal derivative for its form: plain mathematics. -/
namespace Go.Proofs.Y
open Go Go.Vc Go.Dig
theorem ply_mkL(q:Rat):nS (mkL q):=by
 unfold mkL
 split
 .unfold aG numQ;rw[nS,tH,tH,nS,tH];exact⟨.inl ⟨Ae,Ae⟩,⟨.inl ⟨Ae,Ae⟩,trivial⟩,trivial⟩
 .unfold numQ;rw[nS,tH];exact⟨.inl ⟨Ae,Ae⟩,trivial⟩
theorem ply_one{op arg:Int}{a:Tr}(h:(1<=op/\op<=7)\/(op=9/\0<=arg))(ha:nS a):nS (aG op arg [a]):=by
 unfold aG;rw[nS,tH,tH];exact⟨h,ha,trivial⟩
theorem ply_two{op arg:Int}{a b:Tr}(h:(1<=op/\op<=7)\/(op=9/\0<=arg))(ha:nS a)(hb:nS b):nS (aG op arg [a,b]):=by
 unfold aG;rw[nS,tH,tH,tH];exact⟨h,ha,hb,trivial⟩
section
variable (x:List UInt8)
theorem Der.zero{a:Pol}(h:bH1 a)(hp:uP a)(h0:∀t∈a,cf t.1 x=0):Der x (jU 0) a:=⟨h,hp,fun f=>by
  rw[sm_con,Rat.zero_mul];refine (bAi a).symm.trans (jS fun t ht=>?_)
  show (0:Rat)=((cf t.1 x:Nat):Rat)*_
  rw[h0 t ht,show ((0:Nat):Rat)=0 from rfl,Rat.zero_mul]⟩
theorem Der.add{a a' b b':Pol}(k:Rat)(h1:Der x a' a)(h2:Der x b' b):Der x (bZ (plL a' b' k)) (bZ (plL a b k)):=
 ⟨red_norm (bDm k h1.1 h2.1),qG (aM8 k h1.2.1 h2.2.1),fun f=>by rw[dW,dW,mH,mH,h1.2.2,h2.2.2]⟩
theorem Der.mul{a a' b b':Pol}(h1:Der x a' a)(h2:Der x b' b):Der x (bZ (plL (bZ (tmL a' b)) (bZ (tmL a b')) 1)) (bZ (tmL a b)):=
 ⟨red_norm (bDl _ _),qG (aWs h1.2.1 h2.2.1),fun f=>by
   rw[dW,dW,mH,dW,dW,dn_tm x h1.1 h2.1 h1.2.1 h2.2.1,bKb,nP,nP,h1.2.2]
   congr 1
   exact jS fun m _=>h2.2.2 _⟩
theorem Der.pow{a a':Pol}(h:Der x a' a)(n:Nat):Der x (bZ (tmL (bZ (tmL (jU (n:Rat)) (xN a (n-1)))) a')) (xN a n):=by
 obtain⟨h1,h2,h3⟩:=dn_pow x h n;refine⟨h1,h2,fun f=>?_⟩
 rw[dW,aO9 (fun g=>dW g _),aV4,h3]
 rw[nP,sm_con]
 congr 1
 refine jS fun m hm=>?_
 rw[jn_nil ?_];unfold tmL at hm;obtain⟨u,hu,hm⟩:=List.mem_flatMap.1 hm;obtain⟨w,hw,rfl⟩:=List.mem_map.1 hm;exact bDc _ _
end
theorem b8_inj{a b:List Nat}(ha:∀y∈a,y<256)(hb:∀y∈b,y<256)(h:b8 a=b8 b):a=b:=by rw[<-tF ha,<-tF hb,h]
theorem der_un{nm:List Nat}(hnm:fD nm):∀t:Tr,okG t->nS t->Der (b8 nm) (unP (bDx id nm t)) (unP t)/\nS (bDx id nm t):=by
 refine eE fun t ih=>?_
 intro hok hp;obtain⟨op,arg,neg,l,m,name,ks⟩:=t;have hp0:=hp;rw[okG] at hok;rw[nS] at hp;obtain⟨hnb,hks⟩:=hok;obtain⟨hop,hpk⟩:=hp;have hn1:=hnb.1;have hnb8:=aWn hnm;rw[bDx];by_cases h1:op=1
 .subst h1;rw[if_pos (.inl rfl),un_mkL,un_numE];refine⟨Der.zero _ (red_con _) (Sub.con [] _).1 fun t ht=>?_,ply_mkL _⟩
  unfold jU at ht
  split at ht
  .simp at ht
  .rw[bI2] at ht;subst ht;rfl
 by_cases h3:op=3
 .subst h3;rw[if_pos (.inr rfl),un_mkL];have htx:aE (.mk 3 arg neg l m name ks)=[112,105]:=by rw[aE];rfl
  rw[unP,aHf Ae Ae,htx];refine⟨Der.zero _ (red_single _) (nT Ae) fun t ht=>?_,ply_mkL _⟩
  rw[bI2] at ht;subst ht;have hne:b8 [112,105]≠b8 nm:=fun e=>by
   have:=b8_inj Ae hnb8 e;subst this;exact absurd hnm Ae
  show cf [(b8 [112,105],1)] (b8 nm)=0
  rw[aV,if_neg hne];rfl
 rw[if_neg Aa];by_cases h2:op=2
 .subst h2;have hnm2:=hnb.2.2.2.1;rw[if_pos rfl] at hnm2;obtain rfl:ks=[]:=bI5 (by rw[show bM 2=0 from rfl] at hn1;omega);have htx:aE (.mk 2 arg neg l m name [])=name:=by rw[aE];rfl
  have hun:unP (.mk 2 arg neg l m name [])=[([(b8 name,1)],1)]:=by rw[unP,aHf Ae Ae,htx]
  have hb:=aWn hnm2;obtain⟨c,r,e,hc,-⟩:=tE hnm2;have hne:=xM e (fun x=>by have:=jI.1 hc;omega) hb
  rw[if_pos rfl,hun];by_cases hx:name=nm
  .subst hx;rw[if_pos rfl,un_mkL];refine⟨⟨red_single _,nT hne,fun f=>?_⟩,ply_mkL _⟩
   rw[sm_con];show 1*f []=1*(((cf [(b8 name,1)] (b8 name):Nat):Rat)*f (dcM (b8 name) [(b8 name,1)]))+0;have e1:cf [(b8 name,1)] (b8 name)=1:=by rw[aV,if_pos rfl];rfl
   have e2:dcM (b8 name) [(b8 name,1)]=[]:=by
    refine mQ (eH _) ⟨List.Pairwise.nil,fun t ht=>by simp at ht⟩ fun s=>?_
    rw[cf_dc _ (List.pairwise_cons.2 ⟨fun _ h=>(by simp at h),List.Pairwise.nil⟩),pF,aV,pF]
    by_cases e:s=b8 name
    .subst e;rw[if_pos rfl,if_pos rfl];rfl
    .rw[if_neg e,if_neg (fun x=>e x.symm)]
   rw[e1,e2,show ((1:Nat):Rat)=1 from rfl,bKb,bKb,bL6]
  .rw[if_neg hx,un_mkL];refine⟨Der.zero _ (red_single _) (nT hne) fun t ht=>?_,ply_mkL _⟩
   rw[bI2] at ht;subst ht;show cf [(b8 name,1)] (b8 nm)=0;rw[aV,if_neg fun e=>hx (b8_inj hb hnb8 e)];rfl
 rw[if_neg h2];by_cases hone:op=4\/op=9
 .obtain⟨k,rfl⟩:=aM1 hn1 (by unfold bM;rcases hone with rfl|rfl<;>rfl);rw[aJl] at hks;rw[tH] at hpk;obtain⟨hd,hpd⟩:=ih k (bD (j:=0) rfl) hks.1 hpk.1;rw[bCj,bCj];rcases hone with rfl|rfl
  .have e4:∀x:Tr,bGi x 4 arg [k] [bDx id nm k]=aG 4 0 [bDx id nm k]:=fun x=>by
    show (if (4:Int)=4 then aG 4 0 [bDx id nm k] else if (4:Int)=9 then bHy x arg k (bDx id nm k) else if (4:Int)=10 then bGf x arg (bDx id nm k) else bGh x arg k (bDx id nm k))=_
    rw[if_pos rfl]
   rw[e4,bBg];refine⟨?_,ply_one (.inl ⟨Ae,Ae⟩) hpd⟩;unfold aG;rw[bBg];exact Der.add _ _ ⟨red_nilP,fun t ht=>by simp at ht,fun f=>rfl⟩ hd
  .have ha:0<=arg:=Aa;have e9:∀x:Tr,bGi x 9 arg [k] [bDx id nm k]=bHy x arg k (bDx id nm k):=fun x=>by
    show (if (9:Int)=4 then aG 4 0 [bDx id nm k] else if (9:Int)=9 then bHy x arg k (bDx id nm k) else if (9:Int)=10 then bGf x arg (bDx id nm k) else bGh x arg k (bDx id nm k))=_
    rw[if_neg Ae,if_pos rfl]
   rw[e9,un_powE ha];unfold bHy
   split
   .rename_i h0;subst h0;rw[un_mkL];refine⟨?_,ply_mkL _⟩;have:=Der.pow _ hd 0;refine⟨this.1,this.2.1,fun f=>?_⟩
    rw[show (0:Int).natAbs=0 from rfl,<-this.2.2,dW,aO9 (fun g=>dW g _),show ((0:Nat):Rat)=0 from rfl,sm_con,Rat.zero_mul]
    rfl
   .rename_i h0;rw[if_pos Aa];have hp1:nS (aG 9 (arg-1) [k]):=ply_one (.inr ⟨rfl,Aa⟩) hpk.1;refine⟨?_,ply_two (.inl ⟨Ae,Ae⟩) (ply_two (.inl ⟨Ae,Ae⟩) (ply_mkL _) hp1) hpd⟩;unfold aG;rw[mR,mR,un_powE Aa,un_mkL];have:=Der.pow _ hd arg.natAbs;rw[show (arg-1).natAbs=arg.natAbs-1 by omega,show ((arg:Int):Rat)=((arg.natAbs:Nat):Rat) by rw[<-Rat.intCast_natCast,Int.natAbs_of_nonneg ha]]
    exact this
 .obtain⟨k,k',rfl⟩:=aWe hn1 (by unfold bM;rw[if_neg Aa,if_neg Aa,if_pos Aa]);rw[aJl,aJl] at hks;rw[tH,tH] at hpk;obtain⟨hd,hpd⟩:=ih k (bD (j:=0) rfl) hks.1 hpk.1;obtain⟨hd',hpd'⟩:=ih k' (bD (j:=1) rfl) hks.2.1 hpk.2.1;rw[bCj,bCj,bCj];show Der _ (unP (bHz op k k' (bDx id nm k) (bDx id nm k'))) _/\nS (bHz op k k' (bDx id nm k) (bDx id nm k'));unfold bHz;have h57:op=5\/op=6\/op=7:=Aa;rcases h57 with rfl|rfl|rfl
  .rw[if_pos (.inl rfl),rN];refine⟨?_,ply_two (.inl ⟨Ae,Ae⟩) hpd hpd'⟩;unfold aG;rw[rN];exact Der.add _ _ hd hd'
  .rw[if_pos (.inr rfl),bBh];refine⟨?_,ply_two (.inl ⟨Ae,Ae⟩) hpd hpd'⟩;unfold aG;rw[bBh];exact Der.add _ _ hd hd'
  .rw[if_neg Ae,if_pos rfl,mR];refine⟨?_,ply_two (.inl ⟨Ae,Ae⟩) (ply_two (.inl ⟨Ae,Ae⟩) hpd hpk.2.1) (ply_two (.inl ⟨Ae,Ae⟩) hpk.1 hpd')⟩;unfold aG;rw[rN,mR,mR];exact Der.mul _ hd hd'
end Go.Proofs.Y
/- Congruence: what it tells; the ring; an equivalence: plain mathematics. -/
namespace Go.Proofs.Y
open Go Go.Vc Go.Dig
def dI(t u:Tr):Bool × Nat:=
 if bB t/\bB u then match aO t with
  | .error n=>(false,n)
  | .ok p=>match aO u with
   | .error n=>(false,n)
   | .ok q=>(decide (p=q),0)
 else (false,40)
def aHh(t u:Tr):Bool:=!decide ((dI t u).2=0) || (dI t u).1
theorem qH{l:Pol}{n:Nat}(h:bS l=.error n):n≠0:=by
 unfold bS at h
 split at h
 .cases h;decide
 .split at h
  .cases h;decide
  .cases h
theorem aCt{s:List UInt8}{n:Nat}(h:cH s=.error n):n≠0:=by
 unfold cH at h
 split at h
 .cases h;decide
 .cases h
theorem aEy{b:Tr}{a:Pol}{n:Nat}(h:cA b a=.error n):n≠0:=by
 unfold cA at h
 split at h
 .cases h
 .split at h
  .cases h;decide
  .exact aCt h
theorem aHi{a:Pol}:∀{k:Nat} {n:Nat},gQ a k=.error n->n≠0
 | 0,n,h=>by cases h
 | k+1,n,h=>by
  unfold gQ at h;cases ho:gQ a k with
  | error e=>
   rw[ho] at h;cases h;exact aHi ho
  | ok o=>
   rw[ho] at h;exact qH h
theorem aCu:∀(t:Tr),okG t->∀{n:Nat},aO t=.error n->n≠0:=by
 refine eE fun t ih=>?_
 intro hok n hp;obtain⟨op,arg,neg,l,m,name,ks⟩:=t;rw[okG] at hok;obtain⟨hnb,hks⟩:=hok;have hn1:=hnb.1;rw[aO] at hp;unfold gO at hp
 split at hp
 .cases hp
 split at hp
 .rename_i h1 h2;by_cases hone:op=4\/op=9
  .obtain⟨k,rfl⟩:=aM1 hn1 (by unfold bM;rcases hone with rfl|rfl<;>rfl);rw[aJl] at hks;rw[dC,dC] at hp;cases ha:aO k with
   | error e=>
    rw[ha] at hp;cases hp;exact ih k (bD (j:=0) rfl) hks.1 ha
   | ok a=>
    rw[ha] at hp;dsimp only at hp
    split at hp
    .exact qH hp
    .split at hp
     .split at hp
      .cases hc:cA k a with
       | error e=>
        rw[hc] at hp;cases hp;exact aEy hc
       | ok c=>
        rw[hc] at hp;exact aHi hp
      .exact aHi hp
     .omega
  .obtain⟨k,k',rfl⟩:=aWe hn1 (by unfold bM;rw[if_neg Aa,if_neg Aa,if_pos Aa]);rw[aJl,aJl] at hks;rw[dC,dC,dC] at hp;cases ha:aO k with
   | error e=>
    rw[ha] at hp;cases hp;exact ih k (bD (j:=0) rfl) hks.1 ha
   | ok a=>
    rw[ha] at hp;dsimp only at hp;rw[if_neg Aa,if_neg Aa] at hp;cases hb:aO k' with
    | error e=>
     rw[hb] at hp;cases hp;exact ih k' (bD (j:=1) rfl) hks.2.1 hb
    | ok b=>
     rw[hb] at hp;dsimp only at hp
     split at hp
     .exact qH hp
     .split at hp
      .exact qH hp
      .split at hp
       .exact qH hp
       .cases hc:cA k' b with
        | error e=>
         rw[hc] at hp;cases hp;exact aEy hc
        | ok c=>
         rw[hc] at hp;exact qH hp
 .exact aCt hp
theorem rO{t u:Tr}(h:(dI t u).2=0):∃p q,bB t/\bB u/\aO t=.ok p/\aO u=.ok q/\dI t u=(decide (p=q),0):=by
 unfold dI at h ⊢
 split at h
 .rename_i hv;rw[if_pos hv];cases h1:aO t with
  | error n=>
   rw[h1] at h;exact absurd h (aCu t (aG2 hv.1.1) h1)
  | ok p=>
   rw[h1] at h;cases h2:aO u with
   | error n=>
    rw[h2] at h;exact absurd h (aCu u (aG2 hv.2.1) h2)
   | ok q=>exact⟨p,q,hv.1,hv.2,rfl,rfl,rfl⟩
 .cases h
end Go.Proofs.Y
/- Products as the program forms them: exponents by atom, in any order; names cancelled; sorted: plain mathematics. -/
namespace Go.Dig
abbrev rP (l:Mon):Prop:=(l.map (·.1)).Nodup
theorem qI{t:Fac}{l:Mon}:rP (t::l)↔(∀u∈l,u.1≠t.1)/\rP l:=by
 unfold rP;rw[bJw,List.nodup_cons];refine and_congr ⟨fun h u hu e=>h (by rw[<-e];exact bJg hu),fun h hm=>?_⟩ Iff.rfl
 obtain⟨u,hu,e⟩:=List.mem_map.1 hm;exact h u hu e
theorem aNf{l:Mon}(h:rP l){i:Nat}{t:Fac}(ht:l[i]?=some t):cf l t.1=t.2:=by
 induction l generalizing i with
 | nil=>simp at ht
 | cons u l ih=>
  obtain⟨h1,h2⟩:=qI.1 h;cases i with
  | zero=>
   simp at ht;subst ht;rw[aV,if_pos rfl,yP h1,bJz]
  | succ i=>
   have ht':l[i]?=some t:=by simpa using ht
   rw[aV,if_neg (fun e=>h1 t (bIu ht') e.symm)]
   exact ih h2 ht'
theorem aWz{l:Mon}{x:List UInt8}(h:x∉l.map (·.1)):cf l x=0:=yP fun t ht e=>h (by rw[<-e];exact bJg ht)
def etF(l:Mon)(x:List UInt8):Mon:=if x∈l.map (·.1) then l else l++[(x,0)]
theorem bBi{l:Mon}(h:rP l)(x:List UInt8):rP (etF l x):=by
 unfold etF
 split
 .exact h
 .rename_i hx;unfold rP;rw[bI3,bMl];exact⟨h,by simp,fun a ha b hb=>by simp at hb;subst hb;exact fun e=>hx (by rw[<-e];exact ha)⟩
theorem bGm(l:Mon)(x s:List UInt8):cf (etF l x) s=cf l s:=by
 unfold etF
 split
 .rfl
 .rw[kE,aV,pF];show _+(if x=s then 0+0 else 0)=_
  split<;>rfl
theorem bBj{l:Mon}{i:Nat}{x:List UInt8}{v:Nat}(w:Nat)(h:rP l)(hi:l[i]?=some (x,v)):rP (l.set i (x,w))/\∀s,cf (l.set i (x,w)) s=if x=s then w else cf l s:=by
 induction l generalizing i with
 | nil=>simp at hi
 | cons u l ih=>
  obtain⟨h1,h2⟩:=qI.1 h;cases i with
  | zero=>
   simp at hi;subst hi;refine⟨qI.2 ⟨h1,h2⟩,fun s=>?_⟩
   rw[List.set_cons_zero,aV,aV];show (if x=s then _ else _)=if x=s then _ else (if x=s then _ else _)
   by_cases e:x=s
   .subst e;rw[if_pos rfl,if_pos rfl,yP h1,bJz]
   .rw[if_neg e,if_neg e,if_neg e]
  | succ i=>
   have hi':l[i]?=some (x,v):=by simpa using hi
   obtain⟨g1,g2⟩:=ih h2 hi';have hux:u.1≠x:=fun e=>h1 (x,v) (bIu hi') e.symm
   refine⟨qI.2 ⟨fun t ht=>?_,g1⟩,fun s=>?_⟩
   .rcases bM7 ht with ht|rfl
    .exact h1 t ht
    .exact hux.symm
   .rw[bK9,aV,g2,aV];by_cases e:u.1=s
    .rw[if_pos e,if_pos e,if_neg (fun y=>hux (by rw[e,y])),if_neg (fun y=>hux (by rw[e,y]))]
    .rw[if_neg e,if_neg e]
theorem bD9{l:Mon}{i:Nat}{x:List UInt8}(n:Nat)(h:rP l)(hi:(etF l x)[i]?=some (x,cf l x)):rP ((etF l x).set i (x,cf l x+n))/\∀s,cf ((etF l x).set i (x,cf l x+n)) s=cf l s+(if x=s then n else 0):=by
 obtain⟨g1,g2⟩:=bBj (cf l x+n) (bBi h x) hi;refine⟨g1,fun s=>?_⟩
 rw[g2,bGm];by_cases e:x=s
 .subst e;rw[if_pos rfl,if_pos rfl]
 .rw[if_neg e,if_neg e,bJz]
theorem bEa{P:List UInt8->Prop}{l:Mon}{x:List UInt8}{i v:Nat}(hl:∀t∈l,P t.1)(hx:P x):∀t∈(etF l x).set i (x,v),P t.1:=fun t ht=>by
 rcases bM7 ht with ht|rfl
 .unfold etF at ht
  split at ht
  .exact hl t ht
  .rcases bIx.1 ht with ht|ht
   .exact hl t ht
   .rw[bI2] at ht;subst ht;exact hx
 .exact hx
theorem bEb(l:Mon)(x:List UInt8):(etF l x).length<=l.length+1:=by unfold etF;split<;>simp
theorem bBk{q:Mon}(g:List UInt8->Nat->Nat)(hg:∀s,g s 0=0)(h:rP q)(s:List UInt8):cf (q.map fun t=>(t.1,g t.1 t.2)) s=g s (cf q s):=by
 induction q with
 | nil=>exact (hg s).symm
 | cons t q ih=>
  obtain⟨h1,h2⟩:=qI.1 h;rw[bJw,aV,aV,ih h2]
  split
  .rename_i e;subst e;rw[yP h1,hg];rfl
  .rfl
def cnF(l:Mon)(t:Fac):Nat:=t.2-min t.2 (rv l t.1)
def cnL(l d:Mon):Mon:=(d.map fun t=>(t.1,cnF l t)).filter fun t=>!decide (t.2=0)
theorem aCv(l d:Mon)(t:Fac):cnL l (d++[t])=cnL l d++(if cnF l t=0 then [] else [(t.1,cnF l t)]):=by
 unfold cnL;rw[bI3,bLj]
 congr 1
 by_cases e:cnF l t=0
 .rw[if_pos e];simp[e]
 .rw[if_neg e];simp[e]
theorem bBl(l d:Mon):(cnL l d).length<=d.length:=by
 unfold cnL;exact bJd (bMe ..) Aq
theorem bGn{l m:Mon}(h:∀s,cf l s=cf m s)(s:List UInt8):rv l s=rv m s:=by
 unfold rv;cases inv s with
 | none=>rfl
 | some u=>exact h u
theorem bBm{a b l out:Mon}(hk:rP l)(hc:∀s,cf l s=cf (a++b) s)(hp:out.Perm (cnL l l))(hs:out.Pairwise fun s t=>¬t.1<s.1):out=jn a b:=by
 have hkey:rP out:=by
  unfold rP;refine (hp.map _).nodup_iff.2 ?_;unfold cnL;refine ((List.filter_sublist (l:=l.map fun t=>(t.1,cnF l t))).map (·.1)).nodup ?_
  rw[bL4];exact hk
 have hne:out.Pairwise fun s t=>s.1≠t.1:=List.pairwise_map.1 hkey
 have hsr:kN out:=(hs.and hne).imp fun {s t} hst=>by
  rcases oS s.1 t.1 with h|h|h
  .exact h
  .exact absurd h hst.2
  .exact absurd h hst.1
 refine mQ ⟨hsr,fun t ht=>?_⟩ (nM a b) fun s=>?_
 .have:=(List.mem_filter.1 (hp.mem_iff.1 ht)).2
  simpa using this
 .rw[aOu hp];unfold cnL;rw[mZ];have e:=bBk (fun s n=>n-min n (rv l s)) (fun s=>Nat.zero_sub _) hk s
  rw[show (l.map fun t=>(t.1,cnF l t))=l.map fun t=>(t.1,t.2-min t.2 (rv l t.1)) from rfl,e,sZ,hc,kE,bGn hc]
theorem aW0(a b:Mon):(jn a b).length<=a.length+b.length:=by
 have h1:∀(k:List UInt8) (v:Nat) (q:Mon),(iR k v q).length<=q.length+1:=by
  intro k v q
  induction q with
  | nil=>simp[iR]
  | cons t q ih=>
   obtain⟨n,d⟩:=t;unfold iR
   split
   .simp
   .split
    .simp
    .simp only[bIs];omega
 have h2:∀q:Mon,(kP q).length<=q.length:=by
  intro q
  induction q with
  | nil=>simp[kP]
  | cons t q ih=>
   show (iR t.1 t.2 (kP q)).length<=_
   have:=h1 t.1 t.2 (kP q);rw[bIs];omega
 unfold jn bZ;refine bJd (bMe ..) (bJd (h2 _) ?_);rw[bJb];refine bJd (h2 _) ?_;rw[bIo];exact bJf _
theorem bBn{P:List UInt8->Prop}{a b:Mon}(ha:∀t∈a,P t.1)(hb:∀t∈b,P t.1):∀t∈jn a b,P t.1:=by
 have h1:∀(k:List UInt8) (v:Nat) (q:Mon),P k->(∀t∈q,P t.1)->∀t∈iR k v q,P t.1:=by
  intro k v q hk
  induction q with
  | nil=>intro _ t ht;unfold iR at ht;rw[bI2] at ht;subst ht;exact hk
  | cons n q ih=>
   intro hq t ht;obtain⟨n,d⟩:=n;unfold iR at ht
   split at ht
   .rcases bI7.1 ht with rfl|ht
    .exact hk
    .exact hq t ht
   .split at ht
    .rcases bI7.1 ht with rfl|ht
     .exact hq (n,d) (bIw ..)
     .exact hq t (bIz _ ht)
    .rcases bI7.1 ht with rfl|ht
     .exact hq (n,d) (bIw ..)
     .exact ih (fun t ht=>hq t (bIz _ ht)) t ht
 have h2:∀q:Mon,(∀t∈q,P t.1)->∀t∈kP q,P t.1:=by
  intro q
  induction q with
  | nil=>intro _ t ht;exact absurd ht (by simp[kP])
  | cons u q ih=>intro h;exact h1 _ _ _ (h u (bIw ..)) (ih fun t ht=>h t (bIz _ ht))
 intro t ht;unfold jn bZ at ht;refine h2 _ (fun u hu=>?_) t (List.mem_filter.1 ht).1
 obtain⟨v,hv,rfl⟩:=List.mem_map.1 hu;refine h2 _ (fun u hu=>?_) v hv
 rcases bIx.1 hu with hu|hu
 .exact ha u hu
 .exact hb u hu
theorem bBo{m:Mon}(h:kN m){S:List (List UInt8)}(hS:∀t∈m,t.1∈S):m.length<=S.length:=by
 have hn:(m.map (·.1)).Nodup:=by
  unfold List.Nodup;rw[List.pairwise_map];exact h.imp fun {s t} hlt e=>by rw[e] at hlt;exact eI.irr _ hlt
 have:(m.map (·.1)).length<=S.length:=hn.length_le_of_subset fun x hx=>by
  obtain⟨t,ht,rfl⟩:=List.mem_map.1 hx;exact hS t ht
 simpa using this
def aCw(l:Mon)(S:List Nat):Mon:=S.map fun i=>l.getD i ([],0)
theorem aEz{l:Mon}{S:List Nat}{i:Nat}{t:Fac}(h:l[i]?=some t):aCw l (S++[i])=aCw l S++[t]:=by
 unfold aCw;rw[bI3,bJw,bK4,bIp,h];rfl
theorem aRt{l:Mon}{S:List Nat}(hn:S.Nodup)(hl:∀i∈S,i<l.length)(ha:∀i,i<l.length->i∈S):(aCw l S).Perm l:=by
 have hp:S.Perm (List.range l.length):=(List.perm_ext_iff_of_nodup hn List.nodup_range).2 fun i=>by rw[List.mem_range];exact⟨hl i,ha i⟩
 have e:(List.range l.length).map (fun i=>l.getD i ([],0))=l:=by
  refine bMj fun i=>?_
  rw[bKo];by_cases h:i<l.length
  .rw[List.getElem?_range h,bIq h];simp[bIp,h]
  .rw[bJn (by simpa using h),bJn Aa];rfl
 have:=hp.map fun i=>l.getD i ([],0)
 rw[e] at this;exact this
theorem aW1{l d e:Mon}(h:d.Perm e):(cnL l d).Perm (cnL l e):=(h.map _).filter _
theorem aNg{S:List Nat}{i:Nat}(h:S.Nodup)(hi:i∉S):(S++[i]).Nodup:=by
 rw[bMl];exact⟨h,by simp,fun a ha b hb=>by simp at hb;subst hb;exact fun e=>hi (by rw[<-e];exact ha)⟩
theorem bBp{l:Mon}{S:List Nat}(hn:S.Nodup)(hl:∀i∈S,i<l.length):S.length<=l.length:=by
 have:=hn.length_le_of_subset (l₂:=List.range l.length) fun i hi=>List.mem_range.2 (hl i hi)
 simpa using this
theorem bGo{l:Mon}{M:Nat}(h:∀t∈l,t.2<=M)(s:List UInt8):cf l s<=l.length*M:=by
 induction l with
 | nil=>exact bJe _
 | cons t l ih=>
  have h1:=ih fun u hu=>h u (bIz _ hu)
  have h2:=h t (bIw ..);rw[aV,bIs,bJu,bLi]
  split<;>omega
end Go.Dig
/- What every form is bounded by: its atoms come from a short store of short texts: plain mathematics. -/
namespace Go.Proofs.Y
open Go Go.Vc Go.Dig
def InS(S:List (List UInt8))(p:Pol):Prop:=∀t∈p,∀f∈t.1,f.1∈S
structure PG (S:List (List UInt8)) (p:Pol):Prop where
 good:lG p
 key:InS S p
def Sok(S:List (List UInt8)):Prop:=∀s∈S,s.length<=4000
theorem PG.len{S:List (List UInt8)}{p:Pol}(w:PG S p):∀t∈p,t.1.length<=S.length:=fun t ht=>bBo (w.good.red t ht).1.1 (w.key t ht)
theorem InS.mono{S S':List (List UInt8)}{p:Pol}(h:∀s∈S,s∈S')(w:InS S p):InS S' p:=fun t ht f hf=>h _ (w t ht f hf)
theorem PG.mono{S S':List (List UInt8)}{p:Pol}(h:∀s∈S,s∈S')(w:PG S p):PG S' p:=⟨w.good,w.key.mono h⟩
theorem bEc{S:List (List UInt8)}{a b:Pol}(ha:InS S a)(hb:InS S b):InS S (tmL a b):=fun t ht=>by
 unfold tmL at ht;obtain⟨x,hx,ht⟩:=List.mem_flatMap.1 ht;obtain⟨y,hy,rfl⟩:=List.mem_map.1 ht;exact bBn (P:=fun s=>s∈S) (ha x hx) (hb y hy)
theorem bEd{S:List (List UInt8)}{a b:Pol}(k:Rat)(ha:InS S a)(hb:InS S b):InS S (plL a b k):=fun t ht=>by
 unfold plL at ht;rcases bIx.1 ht with ht|ht
 .exact ha t ht
 .obtain⟨y,hy,rfl⟩:=List.mem_map.1 ht;exact hb y hy
theorem aKi{S:List (List UInt8)}{l p:Pol}(h:InS S l)(e:bS l=.ok p):InS S p:=by
 rw[<-rM e];exact tB (P:=fun m:Mon=>∀f∈m,f.1∈S) h
theorem aKj{S:List (List UInt8)}{a b p:Pol}(ha:InS S a)(hb:InS S b)(e:bS (tmL a b)=.ok p):PG S p:=⟨aEp (bDl a b) e,aKi (bEc ha hb) e⟩
theorem aW2{S:List (List UInt8)}{a b p:Pol}(k:Rat)(ha:PG S a)(hb:PG S b)(e:bS (plL a b k)=.ok p):PG S p:=⟨aEp (bDm k ha.good.red hb.good.red) e,aKi (bEd k ha.key hb.key) e⟩
theorem xP:lG []:=⟨⟨List.Pairwise.nil,fun _ h=>by simp at h⟩,fun _ h=>by simp at h,fun _ h=>by simp at h,fun _ h=>by simp at h,bJe _⟩
theorem xQ{m:Mon}{q:Rat}(hm:aB4 m)(hd:∀f∈m,f.2<=64)(h0:q≠0)(hf:fits q):lG [(m,q)]:=
 ⟨⟨List.pairwise_cons.2 ⟨fun _ h=>(by simp at h),List.Pairwise.nil⟩,fun t h=>by rw[bI2] at h;subst h;exact h0⟩,
   fun t h=>by rw[bI2] at h;subst h;exact hm,fun t h=>by rw[bI2] at h;subst h;exact hd,fun t h=>by rw[bI2] at h;subst h;exact hf,by simp⟩
theorem bEe{q:Rat}(hf:fits q):PG [] (jU q):=by
 unfold jU
 split
 .exact⟨xP,fun t ht=>by simp at ht⟩
 .rename_i h0;exact⟨xQ aGv (fun f hf=>by simp at hf) h0 hf,fun t ht f hf=>by rw[bI2] at ht;subst ht;simp at hf⟩
theorem aE0{s:List UInt8}{p:Pol}(h:cH s=.ok p):s.length<=4000/\PG [s] p:=by
 unfold cH at h
 split at h
 .cases h
 .rename_i hl;cases h;exact⟨Aa,xQ (bAl s) (fun f hf=>by rw[bI2] at hf;subst hf;show 1<=64;omega) Ae fU,fun t ht f hf=>by
    rw[bI2] at ht;subst ht;exact bI2.2 (by rw[bI2.1 hf])⟩
theorem vS{q:Rat}(h0:q≠0)(h:fits q):fits (1 / q):=by
 have hn:nu q≠0:=fun e=>h0 (cE.1 e)
 rw[bMb,bKb];unfold fits;rw[yI q hn,den_inv q hn];exact⟨h.2,h.1⟩
theorem aCx{q:Rat}(h0:q≠0):1 / q≠0:=by
 rw[bMb,bKb];intro e;have:q*q⁻¹=q*0:=by rw[e]
 rw[Rat.mul_inv_cancel q h0,bNd] at this;exact absurd this Ae
theorem qJ{b:Tr}{a p:Pol}(ha:lG a)(h:cA b a=.ok p):∃S:List (List UInt8),S.length<=1/\Sok S/\PG S p:=by
 unfold cA at h
 split at h
 .rename_i c;cases h;have h0:c≠0:=ha.can.2 ([],c) (bIw ..);have hf:fits c:=ha.fit ([],c) (bIw ..);exact⟨[],bJe _,fun s hs=>by simp at hs,xQ aGv (fun f hf=>by simp at hf) (aCx h0) (vS h0 hf),fun t ht f hf=>by rw[bI2] at ht;subst ht;simp at hf⟩
 .split at h
  .cases h
  .obtain⟨h1,h2⟩:=aE0 h;exact⟨[_],bJf _,fun s hs=>by rw[bI2] at hs;subst hs;exact h1,h2⟩
theorem aHj(S:List (List UInt8)):PG S [([],1)]:=⟨xQ aGv (fun f hf=>by simp at hf) Ae fU,fun t ht f hf=>by rw[bI2] at ht;subst ht;simp at hf⟩
theorem aHk{S:List (List UInt8)}{a:Pol}(ha:PG S a):∀{n:Nat} {p:Pol},gQ a n=.ok p->PG S p
 | 0,p,h=>by cases h;exact aHj S
 | n+1,p,h=>by
  unfold gQ at h;cases ho:gQ a n with
  | error e=>rw[ho] at h;cases h
  | ok o=>
   rw[ho] at h;exact aKj (aHk ha ho).key ha.key h
theorem kB:∀(t:Tr) (d:Nat),okT d t->∀{p:Pol},aO t=.ok p->∃S:List (List UInt8),S.length<=szT t/\Sok S/\PG S p:=by
 refine eE fun t ih=>?_
 intro d hok p hp;obtain⟨op,arg,neg,l,m,name,ks⟩:=t;rw[okT] at hok;obtain⟨-,hnb,hoks⟩:=hok;have ih':∀k,k∈ks->∀{p:Pol},aO k=.ok p->∃S:List (List UInt8),S.length<=szT k/\Sok S/\PG S p:=fun k hk=>by
  obtain⟨j,hj,e⟩:=List.mem_iff_getElem.1 hk;exact ih k (bD (j:=j) (by rw[bIq hj,e])) (d+1) (eF hoks hk)
 have two:∀{S1 S2:List (List UInt8)},Sok S1->Sok S2->Sok (S1++S2):=fun h1 h2 s hs=>(bIx.1 hs).elim (h1 s) (h2 s)
 rw[aO] at hp;unfold gO at hp;rw[szT];by_cases h1:op=1
 .rw[if_pos h1] at hp;cases hp;have hn:=hnb.2.2.2.2;rw[if_pos h1] at hn;have hz:=hn.1.sz;exact⟨[],bJe _,fun s hs=>by simp at hs,bEe ⟨hz.num,hz.den⟩⟩
 rw[if_neg h1] at hp;by_cases h2:¬(4<=op/\op<=9)
 .rw[if_neg h2] at hp;obtain⟨q1,q2⟩:=aE0 hp;exact⟨[_],by rw[bJm];omega,fun s hs=>by rw[bI2] at hs;subst hs;exact q1,q2⟩
 replace h2:=Decidable.not_not.1 h2;rw[if_pos h2] at hp
 match ks,ih',hp with
 | [],_,hp=>rw[dC] at hp;cases hp
 | k::r,ih',hp=>
  rw[dC] at hp;rw[fO];cases ha:aO k with
  | error n=>rw[ha] at hp;cases hp
  | ok a=>
   rw[ha] at hp;obtain⟨S1,z1,s1,g1⟩:=ih' k (bIw ..) ha;dsimp only at hp;by_cases h4:op=4
   .rw[if_pos h4] at hp;exact⟨S1,Aa,s1,aW2 _ ⟨xP,fun t ht=>by simp at ht⟩ g1 hp⟩
   rw[if_neg h4] at hp;by_cases h9:op=9
   .rw[if_pos h9] at hp;by_cases hn:arg<0
    .rw[if_pos hn] at hp;cases hc:cA k a with
     | error n=>rw[hc] at hp;cases hp
     | ok c=>
      rw[hc] at hp;obtain⟨S2,z2,s2,g2⟩:=qJ g1.good hc;exact⟨S2,Aa,s2,aHk g2 hp⟩
    .rw[if_neg hn] at hp;exact⟨S1,Aa,s1,aHk g1 hp⟩
   rw[if_neg h9] at hp
   match r,ih',hp with
   | [],_,hp=>rw[dC] at hp;cases hp
   | k'::r,ih',hp=>
    rw[dC] at hp;rw[fO];cases hb:aO k' with
    | error n=>rw[hb] at hp;cases hp
    | ok b=>
     rw[hb] at hp;obtain⟨S2,z2,s2,g2⟩:=ih' k' (bIz _ (bIw ..)) hb;have m1:PG (S1++S2) a:=g1.mono fun s hs=>bJh _ hs
     have m2:PG (S1++S2) b:=g2.mono fun s hs=>bJi _ hs
     have z12:(S1++S2).length<=1+(szT k+(szT k'+fO r)):=by rw[bIo];omega
     dsimp only at hp;by_cases h5:op=5
     .rw[if_pos h5] at hp;exact⟨_,z12,two s1 s2,aW2 _ m1 m2 hp⟩
     rw[if_neg h5] at hp;by_cases h6:op=6
     .rw[if_pos h6] at hp;exact⟨_,z12,two s1 s2,aW2 _ m1 m2 hp⟩
     rw[if_neg h6] at hp;by_cases h7:op=7
     .rw[if_pos h7] at hp;exact⟨_,z12,two s1 s2,aKj m1.key m2.key hp⟩
     rw[if_neg h7] at hp;cases hc:cA k' b with
     | error n=>rw[hc] at hp;cases hp
     | ok c=>
      rw[hc] at hp;obtain⟨S3,z3,s3,g3⟩:=qJ g2.good hc;have h0:=aZw k';exact⟨S1++S3,by rw[bIo];omega,two s1 s3,aKj (g1.mono fun s hs=>bJh _ hs).key (g3.mono fun s hs=>bJi _ hs).key hp⟩
end Go.Proofs.Y